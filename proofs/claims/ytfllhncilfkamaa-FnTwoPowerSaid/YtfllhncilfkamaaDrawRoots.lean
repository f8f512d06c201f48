/-
  The draws of spans and numbers for roots and powers.
-/
import Derived.Test.YtfllhncilfkamaaDrawSpans
import Derived.Test.YtfllhncilfkamaaSpan
namespace Go.Proofs.Ytfllhncilfkamaa
open Go.RowKit

set_option maxHeartbeats 4000000 in
theorem drawSpanSqrt_any (a : Option Addr) (len cap : Nat) (zs : Nat → Int) (w : World) (h : Row8 w w.heap.size a len cap zs) :
    Calls Try.prog 39 #[.slice a len cap] w (DrewS w) := by
  have H := Lib.hid h
  clear h
  go_enter Try.func39, Try.ntmps39
  go_wp2_with fail
  refine (l20Open_at _ _ _ _ w.heap.size _ (H.out.through ((Below.refl _ _).alloc (Nat.le_refl _) _)) (by simp)).mono ?_
  rintro e w1 ⟨B, hB, rfl, hr, hk, ha⟩
  have hx := Box.opened hB hr hk (ha _ (Nat.le_refl _)) rfl
  have hK := ((Kept.refl B w).alloc _).trans hk
  have hB : w.heap.size ≤ B := by simp at hB; omega
  clear hk ha H
  go_wp2_with fail
  refine (l20Span_any _ _ _ _ hr (by omega) (by omega)).mono ?_
  rintro e w2 ⟨f1, f2, rfl, ⟨q, hq, hr2⟩, hk2⟩
  have hlt : w.heap.size < w2.heap.size := (hx.keep hk2).1.1
  have hx := (hx.keep hk2).alloc (.cells #[.int .i64 f1, .int .i64 f2] 24)
  have hy := Box.made (.int .i64 f1) (.int .i64 f2) 24 hr2
  have hK := (hK.trans hk2).alloc (.cells #[.int .i64 f1, .int .i64 f2] 24)
  have hr3 := hr2.alloc (.cells #[.int .i64 f1, .int .i64 f2] 24)
  have hne : w.heap.size ≠ w2.heap.size := Nat.ne_of_lt hlt
  have hfr : w.heap.size ≤ w2.heap.size := Nat.le_of_lt hlt
  clear hk2 hr2 hr
  go_wp2_with fail
  refine (pick_any _ _ _ _ hr3 (by omega)).mono ?_
  rintro e w3 ⟨x3, rfl, hx3, hr4, hk3⟩
  have hx := hx.keep hk3
  have hy := hy.keep hk3
  have hK := hK.trans hk3
  clear hk3 hr3 hx3
  by_cases h3 : 0 < x3
  · by_cases h4 : f1 < 0
    · obtain ⟨⟨t0, t1, -⟩, ⟨d0, d1⟩, k0, k1⟩ := id hy
      go_wp2_with fail
      refine (s_spanNeg_any _ _ _).mono ?_
      rintro e w4 ⟨rfl, hb4⟩
      have hx := hx.keep (kept_of_below hb4 B)
      have hy := hy.keep (kept_of_below hb4 B)
      have hK := hK.trans (kept_of_below hb4 B)
      generalize (Fx.spanNeg f1 f2).1 = g1 at *
      generalize (Fx.spanNeg f1 f2).2 = g2 at *
      clear hb4 hr4 t0 t1 d0 d1 k0 k1
      obtain ⟨⟨t0, t1, -⟩, ⟨d0, d1⟩, k0, k1⟩ := id hy
      obtain ⟨⟨s0, s1, -⟩, ⟨c0, c1⟩, z0, z1⟩ := id hx
      have hX := hx.other hne hy.1.2.1 (.int .i64 g1) (.int .i64 g2)
      obtain ⟨-, ⟨d2, d3⟩, -⟩ := hy.put (.int .i64 g1) (.int .i64 g2)
      obtain ⟨-, ⟨e0, e1⟩, -⟩ := hX.put (.int .i64 g1) (.int .i64 g2)
      have hb := ((hK.put2 (b := w2.heap.size) hfr (.int .i64 g1) (.int .i64 g2)).put2 (Nat.le_refl _) (.int .i64 g1) (.int .i64 g2)).below hB (Nat.le_refl _)
      obtain ⟨-, ⟨c2, c3⟩, z2, z3⟩ := hX
      unfold put2 at e0 e1 d2 d3 c2 c3 z2 z3
      go_wp2
      (try simp only [Exit.inBlock, Exit.then])
      exact bodyPost_ret (v := .agg #[.int .i64 g1, .int .i64 g2]) (by simp [results, Try.results39, go_sem, e0, e1]) rfl ⟨_, _, rfl, hb⟩
    ·
      obtain ⟨⟨s0, s1, -⟩, ⟨c0, c1⟩, z0, z1⟩ := id hx
      obtain ⟨⟨t0, t1, -⟩, ⟨d0, d1⟩, k0, k1⟩ := id hy
      obtain ⟨-, ⟨e0, e1⟩, -⟩ := hx.put (.int .i64 f1) (.int .i64 f2)
      unfold put2 at e0 e1
      have hb := (hK.put2 (Nat.le_refl _) (.int .i64 f1) (.int .i64 f2)).below hB (Nat.le_refl _)
      go_wp2
      (try simp only [Exit.inBlock, Exit.then])
      exact bodyPost_ret (v := .agg #[.int .i64 f1, .int .i64 f2]) (by simp [results, Try.results39, go_sem, e0, e1]) rfl ⟨_, _, rfl, hb⟩
  ·
    obtain ⟨⟨s0, s1, -⟩, ⟨c0, c1⟩, z0, z1⟩ := id hx
    obtain ⟨⟨t0, t1, -⟩, ⟨d0, d1⟩, k0, k1⟩ := id hy
    obtain ⟨-, ⟨e0, e1⟩, -⟩ := hx.put (.int .i64 f1) (.int .i64 f2)
    unfold put2 at e0 e1
    have hb := (hK.put2 (Nat.le_refl _) (.int .i64 f1) (.int .i64 f2)).below hB (Nat.le_refl _)
    go_wp2
    (try simp only [Exit.inBlock, Exit.then])
    exact bodyPost_ret (v := .agg #[.int .i64 f1, .int .i64 f2]) (by simp [results, Try.results39, go_sem, e0, e1]) rfl ⟨_, _, rfl, hb⟩

set_option maxHeartbeats 400000 in
theorem one_number (x : Int) : ∃ y : Int, x = y := ⟨x, rfl⟩

set_option linter.unusedVariables false in
def kindsTwoPower (S : List Nat) (B : Nat) : Nat → Value → World → Prop
  | 0, v, _ => IsRd B v
  | 1, v, _ => NumIn 0 255 v
  | 2, v, _ => NumIn 0 65280 v
  | 3, v, _ => IsRd B v
  | 4, v, _ => NumIn 0 255 v
  | 5, v, w => RowNum S 6 v w
  | 6, v, w => RowIn S 8 0 5 v w
  | 7, v, _ => IsRd B v
  | 8, v, _ => NumIn 0 7 v
  | 9, v, w => AtIn S 0 5 v w
  | 10, v, _ => NumIn 0 5 v
  | 11, v, w => AtNum S v w
  | 12, v, _ => IsNum v
  | 13, v, _ => IsRd B v
  | 14, v, _ => NumIn 0 255 v
  | 15, v, _ => IsRd B v
  | 16, v, _ => NumIn 0 1 v
  | 17, v, _ => IsNum v
  | 18, v, _ => IsNum v
  | 19, v, _ => IsNum v
  | 20, v, _ => IsNum v
  | _, _, _ => True
set_option linter.unusedVariables false in
theorem kindsTwoPower_keep (S : List Nat) (B : Nat) (j : Nat) (v : Value) (w w' : World) (h : kindsTwoPower S B j v w) (k : KeptS S w w') : kindsTwoPower S B j v w' := by
  unfold kindsTwoPower at *
  split at h <;> first | exact h | exact h.keep k

set_option maxHeartbeats 4000000 in
theorem drawTwoPower_any (a : Option Addr) (len cap : Nat) (zs : Nat → Int) (w : World) (h : Row8 w w.heap.size a len cap zs) :
    Calls Try.prog 44 #[.slice a len cap] w (Drew1 w) := by
  have H := Lib.hid h
  clear h
  go_enter Try.func44, Try.ntmps44
  go_wp2_with fail
  refine (l20Open_at _ _ _ _ w.heap.size _ H.out (Nat.le_refl _)).mono ?_
  rintro e w1 ⟨B, hB, rfl, hr, hK, ha⟩
  clear ha H
  go_wp2_with fail
  have hY := staysS_true [B]
  have hBS : B ∈ [B] := by simp
  refine Fxr.wp_region_typed (kindsTwoPower [B] B) (ReadsP [B] w1 B 0 1000 [] (fun _ => True)) (KeptS [B]) (by kernel_rfl) (by kernel_rfl) (by kernel_rfl) rfl (kindsTwoPower_keep _ _)
    ⟨⟨0, by omega, hr⟩, (KeptS.refl _ _).drewN 1, by have := hr.1; simpa using this, Pairs.none _ _, trivial, rfl⟩ ?_ ?_
  · have hB := hBS
    clear hK hr hBS
    refine ⟨?_, ?_, ?_, ?_, ?_, ?_, ?_, ?_, ?_, ?_, ?_, ?_, ?_, ?_, ?_, ?_, ?_, ?_, ?_, ?_, ?_, trivial⟩
    · intro a wr k hk hl hR hd hold
      have d3 : a.tmps.getD 3 undef = .pointer (some ⟨_, 0, none⟩) := hl.rest 3 (not_dst rfl)
      refine wpOp_at _ rfl rfl ?_
      have f3 := getD_form d3
      clear hl hd hold hk
      go_simp
      exact ⟨_, rfl, rfl, hR.next (by decide), KeptS.refl _ _⟩
    · intro a wr k hk hl hR hd hold
      have d6 : a.tmps.getD 6 undef = .pointer (some ⟨_, 0, none⟩) := hd ⟨0, .data⟩ (by simp) rfl
      refine wpOp_at _ rfl rfl ?_
      have f6 := getD_form d6
      obtain ⟨q0, hq0, hr0⟩ := hR.reader
      have hk0 : k < 21 := hk
      clear hl hd hold hk
      go_simp
      refine (pick_any _ _ _ _ hr0 (by omega)).mono ?_
      rintro e w1 ⟨x, rfl, hx, hr1, hk1⟩
      have hx1 := hx (by omega)
      exact ⟨_, rfl, ⟨x, rfl, hx1.1, by omega⟩, hR.gone hY hB (by omega) hr1 hk1, hk1.toS hB⟩
    · intro a wr k hk hl hR hd hold
      obtain ⟨x7, d7, l7, u7⟩ : NumIn 0 255 (a.tmps.getD 7 undef) := hd ⟨1, .data⟩ (by simp) rfl
      refine wpOp_at _ rfl rfl ?_
      have f7 := getD_form d7
      clear hl hd hold hk
      go_simp
      exact ⟨_, rfl, ⟨_, rfl, by rw [IntWalk.i64_in _ (by omega)]; omega, by rw [IntWalk.i64_in _ (by omega)]; omega⟩, hR.next (by decide), KeptS.refl _ _⟩
    · intro a wr k hk hl hR hd hold
      have d3 : a.tmps.getD 3 undef = .pointer (some ⟨_, 0, none⟩) := hl.rest 3 (not_dst rfl)
      refine wpOp_at _ rfl rfl ?_
      have f3 := getD_form d3
      clear hl hd hold hk
      go_simp
      exact ⟨_, rfl, rfl, hR.next (by decide), KeptS.refl _ _⟩
    · intro a wr k hk hl hR hd hold
      have d9 : a.tmps.getD 9 undef = .pointer (some ⟨_, 0, none⟩) := hd ⟨3, .data⟩ (by simp) rfl
      refine wpOp_at _ rfl rfl ?_
      have f9 := getD_form d9
      obtain ⟨q0, hq0, hr0⟩ := hR.reader
      have hk0 : k < 21 := hk
      clear hl hd hold hk
      go_simp
      refine (pick_any _ _ _ _ hr0 (by omega)).mono ?_
      rintro e w1 ⟨x, rfl, hx, hr1, hk1⟩
      have hx1 := hx (by omega)
      exact ⟨_, rfl, ⟨x, rfl, hx1.1, by omega⟩, hR.gone hY hB (by omega) hr1 hk1, hk1.toS hB⟩
    · intro a wr k hk hl hR hd hold
      obtain ⟨x8, d8, l8, u8⟩ : NumIn 0 65280 (a.tmps.getD 8 undef) := hd ⟨2, .data⟩ (by simp) rfl
      obtain ⟨x10, d10, l10, u10⟩ : NumIn 0 255 (a.tmps.getD 10 undef) := hd ⟨4, .data⟩ (by simp) rfl
      refine wpOp_at _ rfl rfl ?_
      have f8 := getD_form d8
      have f10 := getD_form d10
      clear hl hd hold hk
      go_simp
      exact ⟨_, rfl, RowNum.made hR.fresh _ _ 6 rfl rfl, hR.alloc (by decide) hY _, (KeptS.refl _ _).alloc _⟩
    · intro a wr k hk hl hR hd hold
      refine wpOp_at _ rfl rfl ?_
      clear hl hd hold hk
      go_simp
      exact ⟨_, rfl, RowIn.made hR.fresh _ _ 8 0 5 rfl rfl, hR.alloc (by decide) hY _, (KeptS.refl _ _).alloc _⟩
    · intro a wr k hk hl hR hd hold
      have d3 : a.tmps.getD 3 undef = .pointer (some ⟨_, 0, none⟩) := hl.rest 3 (not_dst rfl)
      refine wpOp_at _ rfl rfl ?_
      have f3 := getD_form d3
      clear hl hd hold hk
      go_simp
      exact ⟨_, rfl, rfl, hR.next (by decide), KeptS.refl _ _⟩
    · intro a wr k hk hl hR hd hold
      have d13 : a.tmps.getD 13 undef = .pointer (some ⟨_, 0, none⟩) := hd ⟨7, .data⟩ (by simp) rfl
      refine wpOp_at _ rfl rfl ?_
      have f13 := getD_form d13
      obtain ⟨q0, hq0, hr0⟩ := hR.reader
      have hk0 : k < 21 := hk
      clear hl hd hold hk
      go_simp
      refine (pick_any _ _ _ _ hr0 (by omega)).mono ?_
      rintro e w1 ⟨x, rfl, hx, hr1, hk1⟩
      have hx1 := hx (by omega)
      exact ⟨_, rfl, ⟨x, rfl, hx1.1, by omega⟩, hR.gone hY hB (by omega) hr1 hk1, hk1.toS hB⟩
    · intro a wr k hk hl hR hd hold
      obtain ⟨b12, d12, n12, s12, c12⟩ : RowIn _ 8 0 5 (a.tmps.getD 12 undef) wr := hd ⟨6, .data⟩ (by simp) rfl
      obtain ⟨x14, d14, l14, u14⟩ : NumIn 0 7 (a.tmps.getD 14 undef) := hd ⟨8, .data⟩ (by simp) rfl
      refine wpOp_at _ rfl rfl ?_
      have f12 := getD_form d12
      have f14 := getD_form d14
      have z14 : 0 ≤ x14 ∧ x14 < 8 := ⟨by omega, by omega⟩
      clear hl hd hold hk
      have C12 := Lib.hid c12
      clear c12
      go_simp
      exact ⟨_, rfl, row_in n12 s12 C12.out z14, hR.next (by decide), KeptS.refl _ _⟩
    · intro a wr k hk hl hR hd hold
      obtain ⟨b15, i15, d15, n15, s15, y15, c15, l15, u15⟩ : AtIn _ 0 5 (a.tmps.getD 15 undef) wr := hd ⟨9, .data⟩ (by simp) rfl
      refine wpOp_at _ rfl rfl ?_
      have f15 := getD_form d15
      clear hl hd hold hk
      go_simp
      exact ⟨_, rfl, ⟨_, rfl, l15, u15⟩, hR.next (by decide), KeptS.refl _ _⟩
    · intro a wr k hk hl hR hd hold
      obtain ⟨b11, d11, n11, s11, c11⟩ : RowNum _ 6 (a.tmps.getD 11 undef) wr := hd ⟨5, .data⟩ (by simp) rfl
      obtain ⟨x16, d16, l16, u16⟩ : NumIn 0 5 (a.tmps.getD 16 undef) := hd ⟨10, .data⟩ (by simp) rfl
      refine wpOp_at _ rfl rfl ?_
      have f11 := getD_form d11
      have f16 := getD_form d16
      have z16 : 0 ≤ x16 ∧ x16 < 6 := ⟨by omega, by omega⟩
      clear hl hd hold hk
      have C11 := Lib.hid c11
      clear c11
      go_simp
      exact ⟨_, rfl, row_num n11 s11 C11.out z16, hR.next (by decide), KeptS.refl _ _⟩
    · intro a wr k hk hl hR hd hold
      obtain ⟨b17, i17, d17, n17, s17, y17, c17⟩ : AtNum _ (a.tmps.getD 17 undef) wr := hd ⟨11, .data⟩ (by simp) rfl
      refine wpOp_at _ rfl rfl ?_
      have f17 := getD_form d17
      clear hl hd hold hk
      go_simp
      exact ⟨_, rfl, ⟨_, rfl⟩, hR.next (by decide), KeptS.refl _ _⟩
    · intro a wr k hk hl hR hd hold
      have d3 : a.tmps.getD 3 undef = .pointer (some ⟨_, 0, none⟩) := hl.rest 3 (not_dst rfl)
      refine wpOp_at _ rfl rfl ?_
      have f3 := getD_form d3
      clear hl hd hold hk
      go_simp
      exact ⟨_, rfl, rfl, hR.next (by decide), KeptS.refl _ _⟩
    · intro a wr k hk hl hR hd hold
      have d19 : a.tmps.getD 19 undef = .pointer (some ⟨_, 0, none⟩) := hd ⟨13, .data⟩ (by simp) rfl
      refine wpOp_at _ rfl rfl ?_
      have f19 := getD_form d19
      obtain ⟨q0, hq0, hr0⟩ := hR.reader
      have hk0 : k < 21 := hk
      clear hl hd hold hk
      go_simp
      refine (pick_any _ _ _ _ hr0 (by omega)).mono ?_
      rintro e w1 ⟨x, rfl, hx, hr1, hk1⟩
      have hx1 := hx (by omega)
      exact ⟨_, rfl, ⟨x, rfl, hx1.1, by omega⟩, hR.gone hY hB (by omega) hr1 hk1, hk1.toS hB⟩
    · intro a wr k hk hl hR hd hold
      have d3 : a.tmps.getD 3 undef = .pointer (some ⟨_, 0, none⟩) := hl.rest 3 (not_dst rfl)
      refine wpOp_at _ rfl rfl ?_
      have f3 := getD_form d3
      clear hl hd hold hk
      go_simp
      exact ⟨_, rfl, rfl, hR.next (by decide), KeptS.refl _ _⟩
    · intro a wr k hk hl hR hd hold
      have d21 : a.tmps.getD 21 undef = .pointer (some ⟨_, 0, none⟩) := hd ⟨15, .data⟩ (by simp) rfl
      refine wpOp_at _ rfl rfl ?_
      have f21 := getD_form d21
      obtain ⟨q0, hq0, hr0⟩ := hR.reader
      have hk0 : k < 21 := hk
      clear hl hd hold hk
      go_simp
      refine (pick_any _ _ _ _ hr0 (by omega)).mono ?_
      rintro e w1 ⟨x, rfl, hx, hr1, hk1⟩
      have hx1 := hx (by omega)
      exact ⟨_, rfl, ⟨x, rfl, hx1.1, by omega⟩, hR.gone hY hB (by omega) hr1 hk1, hk1.toS hB⟩
    · intro a wr k hk hl hR hd hold
      obtain ⟨x20, d20, l20, u20⟩ : NumIn 0 255 (a.tmps.getD 20 undef) := hd ⟨14, .data⟩ (by simp) rfl
      obtain ⟨x22, d22, l22, u22⟩ : NumIn 0 1 (a.tmps.getD 22 undef) := hd ⟨16, .data⟩ (by simp) rfl
      refine wpOp_at _ rfl rfl ?_
      have f20 := getD_form d20
      have f22 := getD_form d22
      clear hl hd hold hk
      go_simp
      exact ⟨_, rfl, ⟨_, rfl⟩, hR.next (by decide), KeptS.refl _ _⟩
    · intro a wr k hk hl hR hd hold
      obtain ⟨x23, d23⟩ : IsNum (a.tmps.getD 23 undef) := hd ⟨17, .data⟩ (by simp) rfl
      refine wpOp_at _ rfl rfl ?_
      have f23 := getD_form d23
      clear hl hd hold hk
      go_simp
      exact ⟨_, rfl, ⟨_, rfl⟩, hR.next (by decide), KeptS.refl _ _⟩
    · intro a wr k hk hl hR hd hold
      obtain ⟨x18, d18⟩ : IsNum (a.tmps.getD 18 undef) := hd ⟨12, .data⟩ (by simp) rfl
      obtain ⟨x24, d24⟩ : IsNum (a.tmps.getD 24 undef) := hd ⟨18, .data⟩ (by simp) rfl
      refine wpOp_at _ rfl rfl ?_
      have f18 := getD_form d18
      have f24 := getD_form d24
      clear hl hd hold hk
      go_simp
      exact ⟨_, rfl, ⟨_, rfl⟩, hR.next (by decide), KeptS.refl _ _⟩
    · intro a wr k hk hl hR hd hold
      obtain ⟨x25, d25⟩ : IsNum (a.tmps.getD 25 undef) := hd ⟨19, .data⟩ (by simp) rfl
      refine wpOp_at _ rfl rfl ?_
      have f25 := getD_form d25
      clear hl hd hold hk
      go_simp
      exact ⟨_, rfl, ⟨_, rfl⟩, hR.next (by decide), KeptS.refl _ _⟩
  ·
    intro a wr k hk0 hl hR hT
    obtain ⟨x2, d2⟩ : IsNum (a.tmps.getD 2 undef) := hT 20 (by decide)
    have d6 : a.tmps.getD 6 undef = .pointer (some ⟨_, 0, none⟩) := hT 0 (by decide)
    obtain ⟨x7, d7, l7, u7⟩ : NumIn 0 255 (a.tmps.getD 7 undef) := hT 1 (by decide)
    obtain ⟨x8, d8, l8, u8⟩ : NumIn 0 65280 (a.tmps.getD 8 undef) := hT 2 (by decide)
    have d9 : a.tmps.getD 9 undef = .pointer (some ⟨_, 0, none⟩) := hT 3 (by decide)
    obtain ⟨x10, d10, l10, u10⟩ : NumIn 0 255 (a.tmps.getD 10 undef) := hT 4 (by decide)
    obtain ⟨b11, d11, -⟩ : RowNum _ 6 (a.tmps.getD 11 undef) wr := hT 5 (by decide)
    obtain ⟨b12, d12, -⟩ : RowIn _ 8 0 5 (a.tmps.getD 12 undef) wr := hT 6 (by decide)
    have d13 : a.tmps.getD 13 undef = .pointer (some ⟨_, 0, none⟩) := hT 7 (by decide)
    obtain ⟨x14, d14, l14, u14⟩ : NumIn 0 7 (a.tmps.getD 14 undef) := hT 8 (by decide)
    obtain ⟨b15, i15, d15, -⟩ : AtIn _ 0 5 (a.tmps.getD 15 undef) wr := hT 9 (by decide)
    obtain ⟨x16, d16, l16, u16⟩ : NumIn 0 5 (a.tmps.getD 16 undef) := hT 10 (by decide)
    obtain ⟨b17, i17, d17, -⟩ : AtNum _ (a.tmps.getD 17 undef) wr := hT 11 (by decide)
    obtain ⟨x18, d18⟩ : IsNum (a.tmps.getD 18 undef) := hT 12 (by decide)
    have d19 : a.tmps.getD 19 undef = .pointer (some ⟨_, 0, none⟩) := hT 13 (by decide)
    obtain ⟨x20, d20, l20, u20⟩ : NumIn 0 255 (a.tmps.getD 20 undef) := hT 14 (by decide)
    have d21 : a.tmps.getD 21 undef = .pointer (some ⟨_, 0, none⟩) := hT 15 (by decide)
    obtain ⟨x22, d22, l22, u22⟩ : NumIn 0 1 (a.tmps.getD 22 undef) := hT 16 (by decide)
    obtain ⟨x23, d23⟩ : IsNum (a.tmps.getD 23 undef) := hT 17 (by decide)
    obtain ⟨x24, d24⟩ : IsNum (a.tmps.getD 24 undef) := hT 18 (by decide)
    obtain ⟨x25, d25⟩ : IsNum (a.tmps.getD 25 undef) := hT 19 (by decide)
    have ea := Fxr.act_ext a [_, _, _, _, _, _, _, _, _, _, _, _, _, _, _, _, _, _, _, _, _, _, _, _, _, _] hl.defers (by exact hl.size) ⟨hl.rest 0 (not_dst rfl), hl.rest 1 (not_dst rfl), d2, hl.rest 3 (not_dst rfl), hl.rest 4 (not_dst rfl), hl.rest 5 (not_dst rfl), d6, d7, d8, d9, d10, d11, d12, d13, d14, d15, d16, d17, d18, d19, d20, d21, d22, d23, d24, d25, trivial⟩
    clear hT hl
    subst ea
    have hK := hR.toKept hK (by simp)
    clear hR hr hBS
    go_wp2
    go_ret
    exact ⟨_, rfl, hK.below hB (Nat.le_refl _)⟩

set_option linter.unusedVariables false in
def kindsSpanPower (S : List Nat) (B : Nat) : Nat → Value → World → Prop
  | 0, v, _ => IsPair v
  | 1, v, _ => IsRd B v
  | 2, v, _ => NumIn 0 5 v
  | 3, v, w => RowNum S 4 v w
  | 4, v, w => RowIn S 7 0 3 v w
  | 5, v, _ => IsRd B v
  | 6, v, _ => NumIn 0 6 v
  | 7, v, w => AtIn S 0 3 v w
  | 8, v, _ => NumIn 0 3 v
  | 9, v, w => AtNum S v w
  | 10, v, _ => IsNum v
  | 11, v, _ => True
  | 12, v, _ => IsNum v
  | _, _, _ => True
set_option linter.unusedVariables false in
theorem kindsSpanPower_keep (S : List Nat) (B : Nat) (j : Nat) (v : Value) (w w' : World) (h : kindsSpanPower S B j v w) (k : KeptS S w w') : kindsSpanPower S B j v w' := by
  unfold kindsSpanPower at *
  split at h <;> first | exact h | exact h.keep k

set_option maxHeartbeats 8000000 in
theorem drawSpanPower_any (a : Option Addr) (len cap : Nat) (zs : Nat → Int) (w : World) (h : Row8 w w.heap.size a len cap zs) :
    Calls Try.prog 41 #[.slice a len cap] w (DrewSI w) := by
  have H := Lib.hid h
  clear h
  go_enter Try.func41, Try.ntmps41
  go_wp2_with fail
  refine (l20Open_at _ _ _ _ w.heap.size _ (H.out.through ((Below.refl _ _).alloc (Nat.le_refl _) _)) (by simp)).mono ?_
  rintro e w1 ⟨B, hB, rfl, hr, hk, ha⟩
  have hx := Box.opened hB hr hk (ha _ (Nat.le_refl _)) rfl
  have hK := ((Kept.refl B w).alloc _).trans hk
  have hB : w.heap.size ≤ B := by simp at hB; omega
  clear hk ha H
  go_wp2_with fail
  refine (l20Span_any _ _ _ _ hr (by omega) (by omega)).mono ?_
  rintro e w2 ⟨f1, f2, rfl, ⟨q, hq, hr2⟩, hk2⟩
  have hlt : w.heap.size < w2.heap.size := (hx.keep hk2).1.1
  have hx := (hx.keep hk2).alloc (.cells #[.int .i64 f1, .int .i64 f2] 24)
  have hy := Box.made (.int .i64 f1) (.int .i64 f2) 24 hr2
  have hK := (hK.trans hk2).alloc (.cells #[.int .i64 f1, .int .i64 f2] 24)
  have hr3 := hr2.alloc (.cells #[.int .i64 f1, .int .i64 f2] 24)
  have hne : w.heap.size ≠ w2.heap.size := Nat.ne_of_lt hlt
  have hfr : w.heap.size ≤ w2.heap.size := Nat.le_of_lt hlt
  clear hk2 hr2 hr
  go_wp2_with fail
  refine (pick_any _ _ _ _ hr3 (by omega)).mono ?_
  rintro e w3 ⟨x3, rfl, hx3, hr4, hk3⟩
  have hx := hx.keep hk3
  have hy := hy.keep hk3
  have hK := hK.trans hk3
  clear hk3 hr3 hx3
  by_cases h3 : x3 = 0
  · have g3 : (x3 == 0) = true := by simpa using h3
    go_wp2_with fail
    refine (pick_any _ _ _ _ hr4 (by omega)).mono ?_
    rintro e w4 ⟨x4, rfl, hx4, hr5, hk4⟩
    have g4 := hx4 (by omega)
    have hx := hx.keep hk4
    have hy := hy.keep hk4
    have hK := hK.trans hk4
    clear hk4 hx4 hr4
    obtain ⟨⟨t0, t1, -⟩, ⟨d0, d1⟩, k0, k1⟩ := id hy
    have hX := hx.other hne hy.1.2.1 (.int .i64 (268435456 - x4 * 65536)) (.int .i64 268435456)
    have hY2 := hy.put (.int .i64 (268435456 - x4 * 65536)) (.int .i64 268435456)
    have hr6 := hr5.put2 hy (.int .i64 (268435456 - x4 * 65536)) (.int .i64 268435456)
    have hK := hK.put2 (b := w2.heap.size) hfr (.int .i64 (268435456 - x4 * 65536)) (.int .i64 268435456)
    clear hx hy hr5
    have hx := hX
    have hy := hY2
    clear hX hY2
    unfold put2 at hx hy hr6
    go_wp2_with fail
    have hY := staysS_true [B, w.heap.size]
    have hBS : B ∈ [B, w.heap.size] := by simp
    refine Fxr.wp_region_typed (kindsSpanPower [B, w.heap.size] B) (ReadsP [B, w.heap.size] _ B (q+1+1) 1000 [w.heap.size, w2.heap.size] (fun _ => True)) (KeptS [B, w.heap.size]) (by kernel_rfl) (by kernel_rfl) (by kernel_rfl) rfl (kindsSpanPower_keep _ _)
      ⟨⟨(q+1+1), by omega, hr6⟩, (KeptS.refl _ _).drewN 1, by have := hr6.1; have := hx.1.1; simp at *; omega, (Pairs.cons hx (Pairs.cons hy (Pairs.none _ _))).drewN 1, trivial, rfl⟩ ?_ ?_
    · have hB := hBS
      clear hK hx hy hr6 hBS
      refine ⟨?_, ?_, ?_, ?_, ?_, ?_, ?_, ?_, ?_, ?_, ?_, ?_, ?_, trivial⟩
      · intro a wr k hk hl hR hd hold
        have d5 : a.tmps.getD 5 undef = .pointer (some ⟨w2.heap.size, 0, none⟩) := hl.rest 5 (not_dst rfl)
        refine wpOp_at _ rfl rfl ?_
        have f5 := getD_form d5
        obtain ⟨x0, y0, ⟨t0, t1, -⟩, ⟨e0, e1⟩, f0, f1⟩ := hR.pairs w2.heap.size (by simp)
        clear hl hd hold hk
        go_simp
        exact ⟨_, rfl, ⟨_, _, rfl⟩, hR.next (by decide), KeptS.refl _ _⟩
      · intro a wr k hk hl hR hd hold
        have d4 : a.tmps.getD 4 undef = .pointer (some ⟨_, 0, none⟩) := hl.rest 4 (not_dst rfl)
        refine wpOp_at _ rfl rfl ?_
        have f4 := getD_form d4
        clear hl hd hold hk
        go_simp
        exact ⟨_, rfl, rfl, hR.next (by decide), KeptS.refl _ _⟩
      · intro a wr k hk hl hR hd hold
        have d19 : a.tmps.getD 19 undef = .pointer (some ⟨_, 0, none⟩) := hd ⟨1, .data⟩ (by simp) rfl
        refine wpOp_at _ rfl rfl ?_
        have f19 := getD_form d19
        obtain ⟨q0, hq0, hr0⟩ := hR.reader
        have hk0 : k < 13 := hk
        clear hl hd hold hk
        go_simp
        refine (pick_any _ _ _ _ hr0 (by omega)).mono ?_
        rintro e w1 ⟨x, rfl, hx, hr1, hk1⟩
        have hx1 := hx (by omega)
        exact ⟨_, rfl, ⟨x, rfl, hx1.1, by omega⟩, hR.gone hY hB (by omega) hr1 hk1, hk1.toS hB⟩
      · intro a wr k hk hl hR hd hold
        obtain ⟨x20, d20, l20, u20⟩ : NumIn 0 5 (a.tmps.getD 20 undef) := hd ⟨2, .data⟩ (by simp) rfl
        refine wpOp_at _ rfl rfl ?_
        have f20 := getD_form d20
        clear hl hd hold hk
        go_simp
        exact ⟨_, rfl, RowNum.made hR.fresh _ _ 4 rfl rfl, hR.alloc (by decide) hY _, (KeptS.refl _ _).alloc _⟩
      · intro a wr k hk hl hR hd hold
        refine wpOp_at _ rfl rfl ?_
        clear hl hd hold hk
        go_simp
        exact ⟨_, rfl, RowIn.made hR.fresh _ _ 7 0 3 rfl rfl, hR.alloc (by decide) hY _, (KeptS.refl _ _).alloc _⟩
      · intro a wr k hk hl hR hd hold
        have d4 : a.tmps.getD 4 undef = .pointer (some ⟨_, 0, none⟩) := hl.rest 4 (not_dst rfl)
        refine wpOp_at _ rfl rfl ?_
        have f4 := getD_form d4
        clear hl hd hold hk
        go_simp
        exact ⟨_, rfl, rfl, hR.next (by decide), KeptS.refl _ _⟩
      · intro a wr k hk hl hR hd hold
        have d23 : a.tmps.getD 23 undef = .pointer (some ⟨_, 0, none⟩) := hd ⟨5, .data⟩ (by simp) rfl
        refine wpOp_at _ rfl rfl ?_
        have f23 := getD_form d23
        obtain ⟨q0, hq0, hr0⟩ := hR.reader
        have hk0 : k < 13 := hk
        clear hl hd hold hk
        go_simp
        refine (pick_any _ _ _ _ hr0 (by omega)).mono ?_
        rintro e w1 ⟨x, rfl, hx, hr1, hk1⟩
        have hx1 := hx (by omega)
        exact ⟨_, rfl, ⟨x, rfl, hx1.1, by omega⟩, hR.gone hY hB (by omega) hr1 hk1, hk1.toS hB⟩
      · intro a wr k hk hl hR hd hold
        obtain ⟨b22, d22, n22, s22, c22⟩ : RowIn _ 7 0 3 (a.tmps.getD 22 undef) wr := hd ⟨4, .data⟩ (by simp) rfl
        obtain ⟨x24, d24, l24, u24⟩ : NumIn 0 6 (a.tmps.getD 24 undef) := hd ⟨6, .data⟩ (by simp) rfl
        refine wpOp_at _ rfl rfl ?_
        have f22 := getD_form d22
        have f24 := getD_form d24
        have z24 : 0 ≤ x24 ∧ x24 < 7 := ⟨by omega, by omega⟩
        clear hl hd hold hk
        have C22 := Lib.hid c22
        clear c22
        go_simp
        exact ⟨_, rfl, row_in n22 s22 C22.out z24, hR.next (by decide), KeptS.refl _ _⟩
      · intro a wr k hk hl hR hd hold
        obtain ⟨b25, i25, d25, n25, s25, y25, c25, l25, u25⟩ : AtIn _ 0 3 (a.tmps.getD 25 undef) wr := hd ⟨7, .data⟩ (by simp) rfl
        refine wpOp_at _ rfl rfl ?_
        have f25 := getD_form d25
        clear hl hd hold hk
        go_simp
        exact ⟨_, rfl, ⟨_, rfl, l25, u25⟩, hR.next (by decide), KeptS.refl _ _⟩
      · intro a wr k hk hl hR hd hold
        obtain ⟨b21, d21, n21, s21, c21⟩ : RowNum _ 4 (a.tmps.getD 21 undef) wr := hd ⟨3, .data⟩ (by simp) rfl
        obtain ⟨x26, d26, l26, u26⟩ : NumIn 0 3 (a.tmps.getD 26 undef) := hd ⟨8, .data⟩ (by simp) rfl
        refine wpOp_at _ rfl rfl ?_
        have f21 := getD_form d21
        have f26 := getD_form d26
        have z26 : 0 ≤ x26 ∧ x26 < 4 := ⟨by omega, by omega⟩
        clear hl hd hold hk
        have C21 := Lib.hid c21
        clear c21
        go_simp
        exact ⟨_, rfl, row_num n21 s21 C21.out z26, hR.next (by decide), KeptS.refl _ _⟩
      · intro a wr k hk hl hR hd hold
        obtain ⟨b27, i27, d27, n27, s27, y27, c27⟩ : AtNum _ (a.tmps.getD 27 undef) wr := hd ⟨9, .data⟩ (by simp) rfl
        refine wpOp_at _ rfl rfl ?_
        have f27 := getD_form d27
        clear hl hd hold hk
        go_simp
        exact ⟨_, rfl, ⟨_, rfl⟩, hR.next (by decide), KeptS.refl _ _⟩
      · intro a wr k hk hl hR hd hold
        have d2 : a.tmps.getD 2 undef = .pointer (some ⟨w.heap.size, 0, none⟩) := hl.rest 2 (not_dst rfl)
        obtain ⟨x18, y18, d18⟩ : IsPair (a.tmps.getD 18 undef) := hd ⟨0, .data⟩ (by simp) rfl
        refine wpOp_at _ rfl rfl ?_
        have f2 := getD_form d2
        have f18 := getD_form d18
        obtain ⟨x0, y0, ⟨t0, t1, -⟩, ⟨e0, e1⟩, f0, f1⟩ := hR.pairs w.heap.size (by simp)
        clear hl hd hold hk
        go_simp
        exact ⟨⟨undef, trivial⟩, hR.put (by decide) hY (b := w.heap.size) (by simp) (by simp) x18 y18, keptS_put2 (b := w.heap.size) (by simp) _ _⟩
      · intro a wr k hk hl hR hd hold
        obtain ⟨x28, d28⟩ : IsNum (a.tmps.getD 28 undef) := hd ⟨10, .data⟩ (by simp) rfl
        refine wpOp_at _ rfl rfl ?_
        have f28 := getD_form d28
        clear hl hd hold hk
        go_simp
        exact ⟨_, rfl, ⟨_, rfl⟩, hR.next (by decide), KeptS.refl _ _⟩
    ·
      intro a wr k hk0 hl hR hT
      obtain ⟨x3, d3⟩ : IsNum (a.tmps.getD 3 undef) := hT 12 (by decide)
      obtain ⟨x18, y18, d18⟩ : IsPair (a.tmps.getD 18 undef) := hT 0 (by decide)
      have d19 : a.tmps.getD 19 undef = .pointer (some ⟨_, 0, none⟩) := hT 1 (by decide)
      obtain ⟨x20, d20, l20, u20⟩ : NumIn 0 5 (a.tmps.getD 20 undef) := hT 2 (by decide)
      obtain ⟨b21, d21, -⟩ : RowNum _ 4 (a.tmps.getD 21 undef) wr := hT 3 (by decide)
      obtain ⟨b22, d22, -⟩ : RowIn _ 7 0 3 (a.tmps.getD 22 undef) wr := hT 4 (by decide)
      have d23 : a.tmps.getD 23 undef = .pointer (some ⟨_, 0, none⟩) := hT 5 (by decide)
      obtain ⟨x24, d24, l24, u24⟩ : NumIn 0 6 (a.tmps.getD 24 undef) := hT 6 (by decide)
      obtain ⟨b25, i25, d25, -⟩ : AtIn _ 0 3 (a.tmps.getD 25 undef) wr := hT 7 (by decide)
      obtain ⟨x26, d26, l26, u26⟩ : NumIn 0 3 (a.tmps.getD 26 undef) := hT 8 (by decide)
      obtain ⟨b27, i27, d27, -⟩ : AtNum _ (a.tmps.getD 27 undef) wr := hT 9 (by decide)
      obtain ⟨x28, d28⟩ : IsNum (a.tmps.getD 28 undef) := hT 10 (by decide)
      have ea := Fxr.act_ext a [_, _, _, _, _, _, _, _, _, _, _, _, _, _, _, _, _, _, _, _, _, _, _, _, _, _, _, _, _] hl.defers (by exact hl.size) ⟨hl.rest 0 (not_dst rfl), hl.rest 1 (not_dst rfl), hl.rest 2 (not_dst rfl), d3, hl.rest 4 (not_dst rfl), hl.rest 5 (not_dst rfl), hl.rest 6 (not_dst rfl), hl.rest 7 (not_dst rfl), hl.rest 8 (not_dst rfl), hl.rest 9 (not_dst rfl), hl.rest 10 (not_dst rfl), hl.rest 11 (not_dst rfl), hl.rest 12 (not_dst rfl), hl.rest 13 (not_dst rfl), hl.rest 14 (not_dst rfl), hl.rest 15 (not_dst rfl), hl.rest 16 (not_dst rfl), hl.rest 17 (not_dst rfl), d18, d19, d20, d21, d22, d23, d24, d25, d26, d27, d28, trivial⟩
      clear hT hl
      subst ea
      have hK := hR.toKept hK (by simp)
      obtain ⟨xa, ya, -, ⟨e0, e1⟩, -⟩ := hR.pairs w.heap.size (by simp)
      clear hR hx hy hr6 hBS
      go_wp2
      (try simp only [Exit.inBlock, Exit.then])
      exact bodyPost_ret (v := .tuple #[.agg #[.int .i64 xa, .int .i64 ya], .int .i64 x3]) (by simp [results, Try.results41, go_sem, e0, e1]) rfl ⟨_, _, _, rfl, hK.below hB (Nat.le_refl _)⟩
  · have g3 : (x3 == 0) = false := by simpa using h3
    go_wp2_with fail
    have hY := staysS_true [B, w.heap.size]
    have hBS : B ∈ [B, w.heap.size] := by simp
    refine Fxr.wp_region_typed (kindsSpanPower [B, w.heap.size] B) (ReadsP [B, w.heap.size] _ B (q+1) 1000 [w.heap.size, w2.heap.size] (fun _ => True)) (KeptS [B, w.heap.size]) (by kernel_rfl) (by kernel_rfl) (by kernel_rfl) rfl (kindsSpanPower_keep _ _)
      ⟨⟨(q+1), by omega, hr4⟩, (KeptS.refl _ _).drewN 1, by have := hr4.1; have := hx.1.1; simp at *; omega, (Pairs.cons hx (Pairs.cons hy (Pairs.none _ _))).drewN 1, trivial, rfl⟩ ?_ ?_
    · have hB := hBS
      clear hK hx hy hr4 hBS
      refine ⟨?_, ?_, ?_, ?_, ?_, ?_, ?_, ?_, ?_, ?_, ?_, ?_, ?_, trivial⟩
      · intro a wr k hk hl hR hd hold
        have d5 : a.tmps.getD 5 undef = .pointer (some ⟨w2.heap.size, 0, none⟩) := hl.rest 5 (not_dst rfl)
        refine wpOp_at _ rfl rfl ?_
        have f5 := getD_form d5
        obtain ⟨x0, y0, ⟨t0, t1, -⟩, ⟨e0, e1⟩, f0, f1⟩ := hR.pairs w2.heap.size (by simp)
        clear hl hd hold hk
        go_simp
        exact ⟨_, rfl, ⟨_, _, rfl⟩, hR.next (by decide), KeptS.refl _ _⟩
      · intro a wr k hk hl hR hd hold
        have d4 : a.tmps.getD 4 undef = .pointer (some ⟨_, 0, none⟩) := hl.rest 4 (not_dst rfl)
        refine wpOp_at _ rfl rfl ?_
        have f4 := getD_form d4
        clear hl hd hold hk
        go_simp
        exact ⟨_, rfl, rfl, hR.next (by decide), KeptS.refl _ _⟩
      · intro a wr k hk hl hR hd hold
        have d19 : a.tmps.getD 19 undef = .pointer (some ⟨_, 0, none⟩) := hd ⟨1, .data⟩ (by simp) rfl
        refine wpOp_at _ rfl rfl ?_
        have f19 := getD_form d19
        obtain ⟨q0, hq0, hr0⟩ := hR.reader
        have hk0 : k < 13 := hk
        clear hl hd hold hk
        go_simp
        refine (pick_any _ _ _ _ hr0 (by omega)).mono ?_
        rintro e w1 ⟨x, rfl, hx, hr1, hk1⟩
        have hx1 := hx (by omega)
        exact ⟨_, rfl, ⟨x, rfl, hx1.1, by omega⟩, hR.gone hY hB (by omega) hr1 hk1, hk1.toS hB⟩
      · intro a wr k hk hl hR hd hold
        obtain ⟨x20, d20, l20, u20⟩ : NumIn 0 5 (a.tmps.getD 20 undef) := hd ⟨2, .data⟩ (by simp) rfl
        refine wpOp_at _ rfl rfl ?_
        have f20 := getD_form d20
        clear hl hd hold hk
        go_simp
        exact ⟨_, rfl, RowNum.made hR.fresh _ _ 4 rfl rfl, hR.alloc (by decide) hY _, (KeptS.refl _ _).alloc _⟩
      · intro a wr k hk hl hR hd hold
        refine wpOp_at _ rfl rfl ?_
        clear hl hd hold hk
        go_simp
        exact ⟨_, rfl, RowIn.made hR.fresh _ _ 7 0 3 rfl rfl, hR.alloc (by decide) hY _, (KeptS.refl _ _).alloc _⟩
      · intro a wr k hk hl hR hd hold
        have d4 : a.tmps.getD 4 undef = .pointer (some ⟨_, 0, none⟩) := hl.rest 4 (not_dst rfl)
        refine wpOp_at _ rfl rfl ?_
        have f4 := getD_form d4
        clear hl hd hold hk
        go_simp
        exact ⟨_, rfl, rfl, hR.next (by decide), KeptS.refl _ _⟩
      · intro a wr k hk hl hR hd hold
        have d23 : a.tmps.getD 23 undef = .pointer (some ⟨_, 0, none⟩) := hd ⟨5, .data⟩ (by simp) rfl
        refine wpOp_at _ rfl rfl ?_
        have f23 := getD_form d23
        obtain ⟨q0, hq0, hr0⟩ := hR.reader
        have hk0 : k < 13 := hk
        clear hl hd hold hk
        go_simp
        refine (pick_any _ _ _ _ hr0 (by omega)).mono ?_
        rintro e w1 ⟨x, rfl, hx, hr1, hk1⟩
        have hx1 := hx (by omega)
        exact ⟨_, rfl, ⟨x, rfl, hx1.1, by omega⟩, hR.gone hY hB (by omega) hr1 hk1, hk1.toS hB⟩
      · intro a wr k hk hl hR hd hold
        obtain ⟨b22, d22, n22, s22, c22⟩ : RowIn _ 7 0 3 (a.tmps.getD 22 undef) wr := hd ⟨4, .data⟩ (by simp) rfl
        obtain ⟨x24, d24, l24, u24⟩ : NumIn 0 6 (a.tmps.getD 24 undef) := hd ⟨6, .data⟩ (by simp) rfl
        refine wpOp_at _ rfl rfl ?_
        have f22 := getD_form d22
        have f24 := getD_form d24
        have z24 : 0 ≤ x24 ∧ x24 < 7 := ⟨by omega, by omega⟩
        clear hl hd hold hk
        have C22 := Lib.hid c22
        clear c22
        go_simp
        exact ⟨_, rfl, row_in n22 s22 C22.out z24, hR.next (by decide), KeptS.refl _ _⟩
      · intro a wr k hk hl hR hd hold
        obtain ⟨b25, i25, d25, n25, s25, y25, c25, l25, u25⟩ : AtIn _ 0 3 (a.tmps.getD 25 undef) wr := hd ⟨7, .data⟩ (by simp) rfl
        refine wpOp_at _ rfl rfl ?_
        have f25 := getD_form d25
        clear hl hd hold hk
        go_simp
        exact ⟨_, rfl, ⟨_, rfl, l25, u25⟩, hR.next (by decide), KeptS.refl _ _⟩
      · intro a wr k hk hl hR hd hold
        obtain ⟨b21, d21, n21, s21, c21⟩ : RowNum _ 4 (a.tmps.getD 21 undef) wr := hd ⟨3, .data⟩ (by simp) rfl
        obtain ⟨x26, d26, l26, u26⟩ : NumIn 0 3 (a.tmps.getD 26 undef) := hd ⟨8, .data⟩ (by simp) rfl
        refine wpOp_at _ rfl rfl ?_
        have f21 := getD_form d21
        have f26 := getD_form d26
        have z26 : 0 ≤ x26 ∧ x26 < 4 := ⟨by omega, by omega⟩
        clear hl hd hold hk
        have C21 := Lib.hid c21
        clear c21
        go_simp
        exact ⟨_, rfl, row_num n21 s21 C21.out z26, hR.next (by decide), KeptS.refl _ _⟩
      · intro a wr k hk hl hR hd hold
        obtain ⟨b27, i27, d27, n27, s27, y27, c27⟩ : AtNum _ (a.tmps.getD 27 undef) wr := hd ⟨9, .data⟩ (by simp) rfl
        refine wpOp_at _ rfl rfl ?_
        have f27 := getD_form d27
        clear hl hd hold hk
        go_simp
        exact ⟨_, rfl, ⟨_, rfl⟩, hR.next (by decide), KeptS.refl _ _⟩
      · intro a wr k hk hl hR hd hold
        have d2 : a.tmps.getD 2 undef = .pointer (some ⟨w.heap.size, 0, none⟩) := hl.rest 2 (not_dst rfl)
        obtain ⟨x18, y18, d18⟩ : IsPair (a.tmps.getD 18 undef) := hd ⟨0, .data⟩ (by simp) rfl
        refine wpOp_at _ rfl rfl ?_
        have f2 := getD_form d2
        have f18 := getD_form d18
        obtain ⟨x0, y0, ⟨t0, t1, -⟩, ⟨e0, e1⟩, f0, f1⟩ := hR.pairs w.heap.size (by simp)
        clear hl hd hold hk
        go_simp
        exact ⟨⟨undef, trivial⟩, hR.put (by decide) hY (b := w.heap.size) (by simp) (by simp) x18 y18, keptS_put2 (b := w.heap.size) (by simp) _ _⟩
      · intro a wr k hk hl hR hd hold
        obtain ⟨x28, d28⟩ : IsNum (a.tmps.getD 28 undef) := hd ⟨10, .data⟩ (by simp) rfl
        refine wpOp_at _ rfl rfl ?_
        have f28 := getD_form d28
        clear hl hd hold hk
        go_simp
        exact ⟨_, rfl, ⟨_, rfl⟩, hR.next (by decide), KeptS.refl _ _⟩
    ·
      intro a wr k hk0 hl hR hT
      obtain ⟨x3, d3⟩ : IsNum (a.tmps.getD 3 undef) := hT 12 (by decide)
      obtain ⟨x18, y18, d18⟩ : IsPair (a.tmps.getD 18 undef) := hT 0 (by decide)
      have d19 : a.tmps.getD 19 undef = .pointer (some ⟨_, 0, none⟩) := hT 1 (by decide)
      obtain ⟨x20, d20, l20, u20⟩ : NumIn 0 5 (a.tmps.getD 20 undef) := hT 2 (by decide)
      obtain ⟨b21, d21, -⟩ : RowNum _ 4 (a.tmps.getD 21 undef) wr := hT 3 (by decide)
      obtain ⟨b22, d22, -⟩ : RowIn _ 7 0 3 (a.tmps.getD 22 undef) wr := hT 4 (by decide)
      have d23 : a.tmps.getD 23 undef = .pointer (some ⟨_, 0, none⟩) := hT 5 (by decide)
      obtain ⟨x24, d24, l24, u24⟩ : NumIn 0 6 (a.tmps.getD 24 undef) := hT 6 (by decide)
      obtain ⟨b25, i25, d25, -⟩ : AtIn _ 0 3 (a.tmps.getD 25 undef) wr := hT 7 (by decide)
      obtain ⟨x26, d26, l26, u26⟩ : NumIn 0 3 (a.tmps.getD 26 undef) := hT 8 (by decide)
      obtain ⟨b27, i27, d27, -⟩ : AtNum _ (a.tmps.getD 27 undef) wr := hT 9 (by decide)
      obtain ⟨x28, d28⟩ : IsNum (a.tmps.getD 28 undef) := hT 10 (by decide)
      have ea := Fxr.act_ext a [_, _, _, _, _, _, _, _, _, _, _, _, _, _, _, _, _, _, _, _, _, _, _, _, _, _, _, _, _] hl.defers (by exact hl.size) ⟨hl.rest 0 (not_dst rfl), hl.rest 1 (not_dst rfl), hl.rest 2 (not_dst rfl), d3, hl.rest 4 (not_dst rfl), hl.rest 5 (not_dst rfl), hl.rest 6 (not_dst rfl), hl.rest 7 (not_dst rfl), hl.rest 8 (not_dst rfl), hl.rest 9 (not_dst rfl), hl.rest 10 (not_dst rfl), hl.rest 11 (not_dst rfl), hl.rest 12 (not_dst rfl), hl.rest 13 (not_dst rfl), hl.rest 14 (not_dst rfl), hl.rest 15 (not_dst rfl), hl.rest 16 (not_dst rfl), hl.rest 17 (not_dst rfl), d18, d19, d20, d21, d22, d23, d24, d25, d26, d27, d28, trivial⟩
      clear hT hl
      subst ea
      have hK := hR.toKept hK (by simp)
      obtain ⟨xa, ya, -, ⟨e0, e1⟩, -⟩ := hR.pairs w.heap.size (by simp)
      clear hR hx hy hr4 hBS
      go_wp2
      (try simp only [Exit.inBlock, Exit.then])
      exact bodyPost_ret (v := .tuple #[.agg #[.int .i64 xa, .int .i64 ya], .int .i64 x3]) (by simp [results, Try.results41, go_sem, e0, e1]) rfl ⟨_, _, _, rfl, hK.below hB (Nat.le_refl _)⟩

end Go.Proofs.Ytfllhncilfkamaa
