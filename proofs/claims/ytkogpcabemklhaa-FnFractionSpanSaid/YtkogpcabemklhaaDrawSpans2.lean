/-
  The draws of spans, second part.
-/
import Derived.Test.YtkogpcabemklhaaDrawSpans
namespace Go.Proofs.Ytkogpcabemklhaa
open Go.RowKit

set_option linter.unusedVariables false in
def kindsSpanTimes (S : List Nat) (B : Nat) : Nat → Value → World → Prop
  | 0, v, _ => IsRd B v
  | 1, v, _ => IsPair v
  | 2, v, _ => IsRd B v
  | 3, v, _ => NumIn 0 8 v
  | 4, v, _ => NumIn (-4) 4 v
  | 5, v, w => RowNum S 5 v w
  | 6, v, w => RowIn S 8 0 4 v w
  | 7, v, _ => IsRd B v
  | 8, v, _ => NumIn 0 7 v
  | 9, v, w => AtIn S 0 4 v w
  | 10, v, _ => NumIn 0 4 v
  | 11, v, w => AtNum S v w
  | 12, v, _ => IsNum v
  | 13, v, _ => True
  | 14, v, _ => IsNum v
  | _, _, _ => True
set_option linter.unusedVariables false in
theorem kindsSpanTimes_keep (S : List Nat) (B : Nat) (j : Nat) (v : Value) (w w' : World) (h : kindsSpanTimes S B j v w) (k : KeptS S w w') : kindsSpanTimes S B j v w' := by
  unfold kindsSpanTimes at *
  split at h <;> first | exact h | exact h.keep k

set_option maxHeartbeats 4000000 in
theorem drawSpanTimes_any (a : Option Addr) (len cap : Nat) (zs : Nat → Int) (w : World) (h : Row8 w w.heap.size a len cap zs) :
    Calls Try.prog 33 #[.slice a len cap] w (DrewSI w) := by
  have H := Lib.hid h
  clear h
  go_enter Try.func33, Try.ntmps33
  go_wp2_with fail
  refine (l20Open_at _ _ _ _ w.heap.size _ (H.out.through ((Below.refl _ _).alloc (Nat.le_refl _) _)) (by simp)).mono ?_
  rintro e w1 ⟨B, hB, rfl, hr, hk, ha⟩
  have hx := Box.opened hB hr hk (ha _ (Nat.le_refl _)) rfl
  have hK := ((Kept.refl B w).alloc _).trans hk
  have hB : w.heap.size ≤ B := by simp at hB; omega
  clear hk ha H
  go_wp2_with fail
  have hY := staysS_true [B, w.heap.size]
  have hBS : B ∈ [B, w.heap.size] := by simp
  refine Fxr.wp_region_typed (kindsSpanTimes [B, w.heap.size] B) (ReadsP [B, w.heap.size] w1 B 0 1000 [w.heap.size] (fun _ => True)) (KeptS [B, w.heap.size]) (by kernel_rfl) (by kernel_rfl) (by kernel_rfl) rfl (kindsSpanTimes_keep _ _)
    ⟨⟨0, by omega, hr⟩, (KeptS.refl _ _).drewN 1, by have := hr.1; have := hx.1.1; simp at *; omega, (Pairs.cons hx (Pairs.none _ _)).drewN 1, trivial, rfl⟩ ?_ ?_
  · have hB := hBS
    clear hK hx hr hBS
    refine ⟨?_, ?_, ?_, ?_, ?_, ?_, ?_, ?_, ?_, ?_, ?_, ?_, ?_, ?_, ?_, trivial⟩
    · intro a wr k hk hl hR hd hold
      have d4 : a.tmps.getD 4 undef = .pointer (some ⟨_, 0, none⟩) := hl.rest 4 (not_dst rfl)
      refine wpOp_at _ rfl rfl ?_
      have f4 := getD_form d4
      clear hl hd hold hk
      go_simp
      exact ⟨_, rfl, rfl, hR.next (by decide), KeptS.refl _ _⟩
    · intro a wr k hk hl hR hd hold
      have d7 : a.tmps.getD 7 undef = .pointer (some ⟨_, 0, none⟩) := hd ⟨0, .data⟩ (by simp) rfl
      refine wpOp_at _ rfl rfl ?_
      have f7 := getD_form d7
      obtain ⟨q0, hq0, hr0⟩ := hR.reader
      have hk0 : k < 15 := hk
      clear hl hd hold hk
      go_simp
      refine (l20Span_any _ _ _ _ hr0 (by omega) (by omega)).mono ?_
      rintro e w1 ⟨x, y, rfl, ⟨q1, hq1, hr1⟩, hk1⟩
      exact ⟨_, rfl, ⟨x, y, rfl⟩, hR.gone hY hB (by omega) hr1 hk1, hk1.toS hB⟩
    · intro a wr k hk hl hR hd hold
      have d4 : a.tmps.getD 4 undef = .pointer (some ⟨_, 0, none⟩) := hl.rest 4 (not_dst rfl)
      refine wpOp_at _ rfl rfl ?_
      have f4 := getD_form d4
      clear hl hd hold hk
      go_simp
      exact ⟨_, rfl, rfl, hR.next (by decide), KeptS.refl _ _⟩
    · intro a wr k hk hl hR hd hold
      have d9 : a.tmps.getD 9 undef = .pointer (some ⟨_, 0, none⟩) := hd ⟨2, .data⟩ (by simp) rfl
      refine wpOp_at _ rfl rfl ?_
      have f9 := getD_form d9
      obtain ⟨q0, hq0, hr0⟩ := hR.reader
      have hk0 : k < 15 := hk
      clear hl hd hold hk
      go_simp
      refine (pick_any _ _ _ _ hr0 (by omega)).mono ?_
      rintro e w1 ⟨x, rfl, hx, hr1, hk1⟩
      have hx1 := hx (by omega)
      exact ⟨_, rfl, ⟨x, rfl, hx1.1, by omega⟩, hR.gone hY hB (by omega) hr1 hk1, hk1.toS hB⟩
    · intro a wr k hk hl hR hd hold
      obtain ⟨x10, d10, l10, u10⟩ : NumIn 0 8 (a.tmps.getD 10 undef) := hd ⟨3, .data⟩ (by simp) rfl
      refine wpOp_at _ rfl rfl ?_
      have f10 := getD_form d10
      clear hl hd hold hk
      go_simp
      exact ⟨_, rfl, ⟨_, rfl, by rw [IntWalk.i64_in _ (by omega)]; omega, by rw [IntWalk.i64_in _ (by omega)]; omega⟩, hR.next (by decide), KeptS.refl _ _⟩
    · intro a wr k hk hl hR hd hold
      obtain ⟨x11, d11, l11, u11⟩ : NumIn (-4) 4 (a.tmps.getD 11 undef) := hd ⟨4, .data⟩ (by simp) rfl
      refine wpOp_at _ rfl rfl ?_
      have f11 := getD_form d11
      clear hl hd hold hk
      go_simp
      exact ⟨_, rfl, RowNum.made hR.fresh _ _ 5 rfl rfl, hR.alloc (by decide) hY _, (KeptS.refl _ _).alloc _⟩
    · intro a wr k hk hl hR hd hold
      refine wpOp_at _ rfl rfl ?_
      clear hl hd hold hk
      go_simp
      exact ⟨_, rfl, RowIn.made hR.fresh _ _ 8 0 4 rfl rfl, hR.alloc (by decide) hY _, (KeptS.refl _ _).alloc _⟩
    · intro a wr k hk hl hR hd hold
      have d4 : a.tmps.getD 4 undef = .pointer (some ⟨_, 0, none⟩) := hl.rest 4 (not_dst rfl)
      refine wpOp_at _ rfl rfl ?_
      have f4 := getD_form d4
      clear hl hd hold hk
      go_simp
      exact ⟨_, rfl, rfl, hR.next (by decide), KeptS.refl _ _⟩
    · intro a wr k hk hl hR hd hold
      have d14 : a.tmps.getD 14 undef = .pointer (some ⟨_, 0, none⟩) := hd ⟨7, .data⟩ (by simp) rfl
      refine wpOp_at _ rfl rfl ?_
      have f14 := getD_form d14
      obtain ⟨q0, hq0, hr0⟩ := hR.reader
      have hk0 : k < 15 := hk
      clear hl hd hold hk
      go_simp
      refine (pick_any _ _ _ _ hr0 (by omega)).mono ?_
      rintro e w1 ⟨x, rfl, hx, hr1, hk1⟩
      have hx1 := hx (by omega)
      exact ⟨_, rfl, ⟨x, rfl, hx1.1, by omega⟩, hR.gone hY hB (by omega) hr1 hk1, hk1.toS hB⟩
    · intro a wr k hk hl hR hd hold
      obtain ⟨b13, d13, n13, s13, c13⟩ : RowIn _ 8 0 4 (a.tmps.getD 13 undef) wr := hd ⟨6, .data⟩ (by simp) rfl
      obtain ⟨x15, d15, l15, u15⟩ : NumIn 0 7 (a.tmps.getD 15 undef) := hd ⟨8, .data⟩ (by simp) rfl
      refine wpOp_at _ rfl rfl ?_
      have f13 := getD_form d13
      have f15 := getD_form d15
      have z15 : 0 ≤ x15 ∧ x15 < 8 := ⟨by omega, by omega⟩
      clear hl hd hold hk
      have C13 := Lib.hid c13
      clear c13
      go_simp
      exact ⟨_, rfl, row_in n13 s13 C13.out z15, hR.next (by decide), KeptS.refl _ _⟩
    · intro a wr k hk hl hR hd hold
      obtain ⟨b16, i16, d16, n16, s16, y16, c16, l16, u16⟩ : AtIn _ 0 4 (a.tmps.getD 16 undef) wr := hd ⟨9, .data⟩ (by simp) rfl
      refine wpOp_at _ rfl rfl ?_
      have f16 := getD_form d16
      clear hl hd hold hk
      go_simp
      exact ⟨_, rfl, ⟨_, rfl, l16, u16⟩, hR.next (by decide), KeptS.refl _ _⟩
    · intro a wr k hk hl hR hd hold
      obtain ⟨b12, d12, n12, s12, c12⟩ : RowNum _ 5 (a.tmps.getD 12 undef) wr := hd ⟨5, .data⟩ (by simp) rfl
      obtain ⟨x17, d17, l17, u17⟩ : NumIn 0 4 (a.tmps.getD 17 undef) := hd ⟨10, .data⟩ (by simp) rfl
      refine wpOp_at _ rfl rfl ?_
      have f12 := getD_form d12
      have f17 := getD_form d17
      have z17 : 0 ≤ x17 ∧ x17 < 5 := ⟨by omega, by omega⟩
      clear hl hd hold hk
      have C12 := Lib.hid c12
      clear c12
      go_simp
      exact ⟨_, rfl, row_num n12 s12 C12.out z17, hR.next (by decide), KeptS.refl _ _⟩
    · intro a wr k hk hl hR hd hold
      obtain ⟨b18, i18, d18, n18, s18, y18, c18⟩ : AtNum _ (a.tmps.getD 18 undef) wr := hd ⟨11, .data⟩ (by simp) rfl
      refine wpOp_at _ rfl rfl ?_
      have f18 := getD_form d18
      clear hl hd hold hk
      go_simp
      exact ⟨_, rfl, ⟨_, rfl⟩, hR.next (by decide), KeptS.refl _ _⟩
    · intro a wr k hk hl hR hd hold
      have d2 : a.tmps.getD 2 undef = .pointer (some ⟨w.heap.size, 0, none⟩) := hl.rest 2 (not_dst rfl)
      obtain ⟨x8, y8, d8⟩ : IsPair (a.tmps.getD 8 undef) := hd ⟨1, .data⟩ (by simp) rfl
      refine wpOp_at _ rfl rfl ?_
      have f2 := getD_form d2
      have f8 := getD_form d8
      obtain ⟨x0, y0, ⟨t0, t1, -⟩, ⟨e0, e1⟩, f0, f1⟩ := hR.pairs w.heap.size (by simp)
      clear hl hd hold hk
      go_simp
      exact ⟨⟨undef, trivial⟩, hR.put (by decide) hY (b := w.heap.size) (by simp) (by simp) x8 y8, keptS_put2 (b := w.heap.size) (by simp) _ _⟩
    · intro a wr k hk hl hR hd hold
      obtain ⟨x19, d19⟩ : IsNum (a.tmps.getD 19 undef) := hd ⟨12, .data⟩ (by simp) rfl
      refine wpOp_at _ rfl rfl ?_
      have f19 := getD_form d19
      clear hl hd hold hk
      go_simp
      exact ⟨_, rfl, ⟨_, rfl⟩, hR.next (by decide), KeptS.refl _ _⟩
  ·
    intro a wr k hk0 hl hR hT
    obtain ⟨x3, d3⟩ : IsNum (a.tmps.getD 3 undef) := hT 14 (by decide)
    have d7 : a.tmps.getD 7 undef = .pointer (some ⟨_, 0, none⟩) := hT 0 (by decide)
    obtain ⟨x8, y8, d8⟩ : IsPair (a.tmps.getD 8 undef) := hT 1 (by decide)
    have d9 : a.tmps.getD 9 undef = .pointer (some ⟨_, 0, none⟩) := hT 2 (by decide)
    obtain ⟨x10, d10, l10, u10⟩ : NumIn 0 8 (a.tmps.getD 10 undef) := hT 3 (by decide)
    obtain ⟨x11, d11, l11, u11⟩ : NumIn (-4) 4 (a.tmps.getD 11 undef) := hT 4 (by decide)
    obtain ⟨b12, d12, -⟩ : RowNum _ 5 (a.tmps.getD 12 undef) wr := hT 5 (by decide)
    obtain ⟨b13, d13, -⟩ : RowIn _ 8 0 4 (a.tmps.getD 13 undef) wr := hT 6 (by decide)
    have d14 : a.tmps.getD 14 undef = .pointer (some ⟨_, 0, none⟩) := hT 7 (by decide)
    obtain ⟨x15, d15, l15, u15⟩ : NumIn 0 7 (a.tmps.getD 15 undef) := hT 8 (by decide)
    obtain ⟨b16, i16, d16, -⟩ : AtIn _ 0 4 (a.tmps.getD 16 undef) wr := hT 9 (by decide)
    obtain ⟨x17, d17, l17, u17⟩ : NumIn 0 4 (a.tmps.getD 17 undef) := hT 10 (by decide)
    obtain ⟨b18, i18, d18, -⟩ : AtNum _ (a.tmps.getD 18 undef) wr := hT 11 (by decide)
    obtain ⟨x19, d19⟩ : IsNum (a.tmps.getD 19 undef) := hT 12 (by decide)
    have ea := Fxr.act_ext a [_, _, _, _, _, _, _, _, _, _, _, _, _, _, _, _, _, _, _, _] hl.defers (by exact hl.size) ⟨hl.rest 0 (not_dst rfl), hl.rest 1 (not_dst rfl), hl.rest 2 (not_dst rfl), d3, hl.rest 4 (not_dst rfl), hl.rest 5 (not_dst rfl), hl.rest 6 (not_dst rfl), d7, d8, d9, d10, d11, d12, d13, d14, d15, d16, d17, d18, d19, trivial⟩
    clear hT hl
    subst ea
    have hK := hR.toKept hK (by simp)
    obtain ⟨xa, ya, -, ⟨e0, e1⟩, -⟩ := hR.pairs w.heap.size (by simp)
    clear hR hx hr hBS
    go_wp2
    (try simp only [Exit.inBlock, Exit.then])
    exact bodyPost_ret (v := .tuple #[.agg #[.int .i64 xa, .int .i64 ya], .int .i64 x3]) (by simp [results, Try.results33, go_sem, e0, e1]) rfl ⟨_, _, _, rfl, hK.below hB (Nat.le_refl _)⟩

set_option linter.unusedVariables false in
def kindsFractionSpan (S : List Nat) (B : Nat) : Nat → Value → World → Prop
  | 0, v, _ => IsRd B v
  | 1, v, _ => NumIn 0 255 v
  | 2, v, _ => NumIn (-128) 127 v
  | 3, v, _ => IsRd B v
  | 4, v, _ => NumIn 0 255 v
  | 5, v, _ => IsNum v
  | 6, v, w => RowNum S 5 v w
  | 7, v, w => RowIn S 7 0 4 v w
  | 8, v, _ => IsRd B v
  | 9, v, _ => NumIn 0 6 v
  | 10, v, w => AtIn S 0 4 v w
  | 11, v, _ => NumIn 0 4 v
  | 12, v, w => AtNum S v w
  | 13, v, _ => IsNum v
  | 14, v, _ => IsRd B v
  | 15, v, _ => NumIn 0 255 v
  | 16, v, _ => NumIn 1 256 v
  | 17, v, _ => IsRd B v
  | 18, v, _ => NumIn 0 255 v
  | 19, v, _ => IsNum v
  | 20, v, _ => IsNum v
  | 21, v, w => RowNum S 5 v w
  | 22, v, w => RowIn S 7 0 4 v w
  | 23, v, _ => IsRd B v
  | 24, v, _ => NumIn 0 6 v
  | 25, v, w => AtIn S 0 4 v w
  | 26, v, _ => NumIn 0 4 v
  | 27, v, w => AtNum S v w
  | 28, v, _ => IsNum v
  | 29, v, _ => IsNum v
  | 30, v, _ => IsNum v
  | _, _, _ => True
set_option linter.unusedVariables false in
theorem kindsFractionSpan_keep (S : List Nat) (B : Nat) (j : Nat) (v : Value) (w w' : World) (h : kindsFractionSpan S B j v w) (k : KeptS S w w') : kindsFractionSpan S B j v w' := by
  unfold kindsFractionSpan at *
  split at h <;> first | exact h | exact h.keep k

set_option maxHeartbeats 4000000 in
theorem drawFractionSpan_any (a : Option Addr) (len cap : Nat) (zs : Nat → Int) (w : World) (h : Row8 w w.heap.size a len cap zs) :
    Calls Try.prog 30 #[.slice a len cap] w (Drew2 w) := by
  have H := Lib.hid h
  clear h
  go_enter Try.func30, Try.ntmps30
  go_wp2_with fail
  refine (l20Open_at _ _ _ _ w.heap.size _ H.out (Nat.le_refl _)).mono ?_
  rintro e w1 ⟨B, hB, rfl, hr, hK, ha⟩
  clear ha H
  go_wp2_with fail
  have hY := staysS_true [B]
  have hBS : B ∈ [B] := by simp
  refine Fxr.wp_region_typed (kindsFractionSpan [B] B) (ReadsP [B] w1 B 0 1000 [] (fun _ => True)) (KeptS [B]) (by kernel_rfl) (by kernel_rfl) (by kernel_rfl) rfl (kindsFractionSpan_keep _ _)
    ⟨⟨0, by omega, hr⟩, (KeptS.refl _ _).drewN 1, by have := hr.1; simpa using this, Pairs.none _ _, trivial, rfl⟩ ?_ ?_
  · have hB := hBS
    clear hK hr hBS
    refine ⟨?_, ?_, ?_, ?_, ?_, ?_, ?_, ?_, ?_, ?_, ?_, ?_, ?_, ?_, ?_, ?_, ?_, ?_, ?_, ?_, ?_, ?_, ?_, ?_, ?_, ?_, ?_, ?_, ?_, ?_, ?_, trivial⟩
    · intro a wr k hk hl hR hd hold
      have d4 : a.tmps.getD 4 undef = .pointer (some ⟨_, 0, none⟩) := hl.rest 4 (not_dst rfl)
      refine wpOp_at _ rfl rfl ?_
      have f4 := getD_form d4
      clear hl hd hold hk
      go_simp
      exact ⟨_, rfl, rfl, hR.next (by decide), KeptS.refl _ _⟩
    · intro a wr k hk hl hR hd hold
      have d7 : a.tmps.getD 7 undef = .pointer (some ⟨_, 0, none⟩) := hd ⟨0, .data⟩ (by simp) rfl
      refine wpOp_at _ rfl rfl ?_
      have f7 := getD_form d7
      obtain ⟨q0, hq0, hr0⟩ := hR.reader
      have hk0 : k < 31 := hk
      clear hl hd hold hk
      go_simp
      refine (pick_any _ _ _ _ hr0 (by omega)).mono ?_
      rintro e w1 ⟨x, rfl, hx, hr1, hk1⟩
      have hx1 := hx (by omega)
      exact ⟨_, rfl, ⟨x, rfl, hx1.1, by omega⟩, hR.gone hY hB (by omega) hr1 hk1, hk1.toS hB⟩
    · intro a wr k hk hl hR hd hold
      obtain ⟨x8, d8, l8, u8⟩ : NumIn 0 255 (a.tmps.getD 8 undef) := hd ⟨1, .data⟩ (by simp) rfl
      refine wpOp_at _ rfl rfl ?_
      have f8 := getD_form d8
      clear hl hd hold hk
      go_simp
      exact ⟨_, rfl, ⟨_, rfl, by rw [IntWalk.i64_in _ (by omega)]; omega, by rw [IntWalk.i64_in _ (by omega)]; omega⟩, hR.next (by decide), KeptS.refl _ _⟩
    · intro a wr k hk hl hR hd hold
      have d4 : a.tmps.getD 4 undef = .pointer (some ⟨_, 0, none⟩) := hl.rest 4 (not_dst rfl)
      refine wpOp_at _ rfl rfl ?_
      have f4 := getD_form d4
      clear hl hd hold hk
      go_simp
      exact ⟨_, rfl, rfl, hR.next (by decide), KeptS.refl _ _⟩
    · intro a wr k hk hl hR hd hold
      have d10 : a.tmps.getD 10 undef = .pointer (some ⟨_, 0, none⟩) := hd ⟨3, .data⟩ (by simp) rfl
      refine wpOp_at _ rfl rfl ?_
      have f10 := getD_form d10
      obtain ⟨q0, hq0, hr0⟩ := hR.reader
      have hk0 : k < 31 := hk
      clear hl hd hold hk
      go_simp
      refine (pick_any _ _ _ _ hr0 (by omega)).mono ?_
      rintro e w1 ⟨x, rfl, hx, hr1, hk1⟩
      have hx1 := hx (by omega)
      exact ⟨_, rfl, ⟨x, rfl, hx1.1, by omega⟩, hR.gone hY hB (by omega) hr1 hk1, hk1.toS hB⟩
    · intro a wr k hk hl hR hd hold
      obtain ⟨x11, d11, l11, u11⟩ : NumIn 0 255 (a.tmps.getD 11 undef) := hd ⟨4, .data⟩ (by simp) rfl
      refine wpOp_at _ rfl rfl ?_
      have f11 := getD_form d11
      clear hl hd hold hk
      go_simp
      exact ⟨_, rfl, ⟨_, rfl⟩, hR.next (by decide), KeptS.refl _ _⟩
    · intro a wr k hk hl hR hd hold
      obtain ⟨x9, d9, l9, u9⟩ : NumIn (-128) 127 (a.tmps.getD 9 undef) := hd ⟨2, .data⟩ (by simp) rfl
      obtain ⟨x12, d12⟩ : IsNum (a.tmps.getD 12 undef) := hd ⟨5, .data⟩ (by simp) rfl
      refine wpOp_at _ rfl rfl ?_
      have f9 := getD_form d9
      have f12 := getD_form d12
      clear hl hd hold hk
      go_simp
      exact ⟨_, rfl, RowNum.made hR.fresh _ _ 5 rfl rfl, hR.alloc (by decide) hY _, (KeptS.refl _ _).alloc _⟩
    · intro a wr k hk hl hR hd hold
      refine wpOp_at _ rfl rfl ?_
      clear hl hd hold hk
      go_simp
      exact ⟨_, rfl, RowIn.made hR.fresh _ _ 7 0 4 rfl rfl, hR.alloc (by decide) hY _, (KeptS.refl _ _).alloc _⟩
    · intro a wr k hk hl hR hd hold
      have d4 : a.tmps.getD 4 undef = .pointer (some ⟨_, 0, none⟩) := hl.rest 4 (not_dst rfl)
      refine wpOp_at _ rfl rfl ?_
      have f4 := getD_form d4
      clear hl hd hold hk
      go_simp
      exact ⟨_, rfl, rfl, hR.next (by decide), KeptS.refl _ _⟩
    · intro a wr k hk hl hR hd hold
      have d15 : a.tmps.getD 15 undef = .pointer (some ⟨_, 0, none⟩) := hd ⟨8, .data⟩ (by simp) rfl
      refine wpOp_at _ rfl rfl ?_
      have f15 := getD_form d15
      obtain ⟨q0, hq0, hr0⟩ := hR.reader
      have hk0 : k < 31 := hk
      clear hl hd hold hk
      go_simp
      refine (pick_any _ _ _ _ hr0 (by omega)).mono ?_
      rintro e w1 ⟨x, rfl, hx, hr1, hk1⟩
      have hx1 := hx (by omega)
      exact ⟨_, rfl, ⟨x, rfl, hx1.1, by omega⟩, hR.gone hY hB (by omega) hr1 hk1, hk1.toS hB⟩
    · intro a wr k hk hl hR hd hold
      obtain ⟨b14, d14, n14, s14, c14⟩ : RowIn _ 7 0 4 (a.tmps.getD 14 undef) wr := hd ⟨7, .data⟩ (by simp) rfl
      obtain ⟨x16, d16, l16, u16⟩ : NumIn 0 6 (a.tmps.getD 16 undef) := hd ⟨9, .data⟩ (by simp) rfl
      refine wpOp_at _ rfl rfl ?_
      have f14 := getD_form d14
      have f16 := getD_form d16
      have z16 : 0 ≤ x16 ∧ x16 < 7 := ⟨by omega, by omega⟩
      clear hl hd hold hk
      have C14 := Lib.hid c14
      clear c14
      go_simp
      exact ⟨_, rfl, row_in n14 s14 C14.out z16, hR.next (by decide), KeptS.refl _ _⟩
    · intro a wr k hk hl hR hd hold
      obtain ⟨b17, i17, d17, n17, s17, y17, c17, l17, u17⟩ : AtIn _ 0 4 (a.tmps.getD 17 undef) wr := hd ⟨10, .data⟩ (by simp) rfl
      refine wpOp_at _ rfl rfl ?_
      have f17 := getD_form d17
      clear hl hd hold hk
      go_simp
      exact ⟨_, rfl, ⟨_, rfl, l17, u17⟩, hR.next (by decide), KeptS.refl _ _⟩
    · intro a wr k hk hl hR hd hold
      obtain ⟨b13, d13, n13, s13, c13⟩ : RowNum _ 5 (a.tmps.getD 13 undef) wr := hd ⟨6, .data⟩ (by simp) rfl
      obtain ⟨x18, d18, l18, u18⟩ : NumIn 0 4 (a.tmps.getD 18 undef) := hd ⟨11, .data⟩ (by simp) rfl
      refine wpOp_at _ rfl rfl ?_
      have f13 := getD_form d13
      have f18 := getD_form d18
      have z18 : 0 ≤ x18 ∧ x18 < 5 := ⟨by omega, by omega⟩
      clear hl hd hold hk
      have C13 := Lib.hid c13
      clear c13
      go_simp
      exact ⟨_, rfl, row_num n13 s13 C13.out z18, hR.next (by decide), KeptS.refl _ _⟩
    · intro a wr k hk hl hR hd hold
      obtain ⟨b19, i19, d19, n19, s19, y19, c19⟩ : AtNum _ (a.tmps.getD 19 undef) wr := hd ⟨12, .data⟩ (by simp) rfl
      refine wpOp_at _ rfl rfl ?_
      have f19 := getD_form d19
      clear hl hd hold hk
      go_simp
      exact ⟨_, rfl, ⟨_, rfl⟩, hR.next (by decide), KeptS.refl _ _⟩
    · intro a wr k hk hl hR hd hold
      have d4 : a.tmps.getD 4 undef = .pointer (some ⟨_, 0, none⟩) := hl.rest 4 (not_dst rfl)
      refine wpOp_at _ rfl rfl ?_
      have f4 := getD_form d4
      clear hl hd hold hk
      go_simp
      exact ⟨_, rfl, rfl, hR.next (by decide), KeptS.refl _ _⟩
    · intro a wr k hk hl hR hd hold
      have d21 : a.tmps.getD 21 undef = .pointer (some ⟨_, 0, none⟩) := hd ⟨14, .data⟩ (by simp) rfl
      refine wpOp_at _ rfl rfl ?_
      have f21 := getD_form d21
      obtain ⟨q0, hq0, hr0⟩ := hR.reader
      have hk0 : k < 31 := hk
      clear hl hd hold hk
      go_simp
      refine (pick_any _ _ _ _ hr0 (by omega)).mono ?_
      rintro e w1 ⟨x, rfl, hx, hr1, hk1⟩
      have hx1 := hx (by omega)
      exact ⟨_, rfl, ⟨x, rfl, hx1.1, by omega⟩, hR.gone hY hB (by omega) hr1 hk1, hk1.toS hB⟩
    · intro a wr k hk hl hR hd hold
      obtain ⟨x22, d22, l22, u22⟩ : NumIn 0 255 (a.tmps.getD 22 undef) := hd ⟨15, .data⟩ (by simp) rfl
      refine wpOp_at _ rfl rfl ?_
      have f22 := getD_form d22
      clear hl hd hold hk
      go_simp
      exact ⟨_, rfl, ⟨_, rfl, by rw [IntWalk.i64_in _ (by omega)]; omega, by rw [IntWalk.i64_in _ (by omega)]; omega⟩, hR.next (by decide), KeptS.refl _ _⟩
    · intro a wr k hk hl hR hd hold
      have d4 : a.tmps.getD 4 undef = .pointer (some ⟨_, 0, none⟩) := hl.rest 4 (not_dst rfl)
      refine wpOp_at _ rfl rfl ?_
      have f4 := getD_form d4
      clear hl hd hold hk
      go_simp
      exact ⟨_, rfl, rfl, hR.next (by decide), KeptS.refl _ _⟩
    · intro a wr k hk hl hR hd hold
      have d24 : a.tmps.getD 24 undef = .pointer (some ⟨_, 0, none⟩) := hd ⟨17, .data⟩ (by simp) rfl
      refine wpOp_at _ rfl rfl ?_
      have f24 := getD_form d24
      obtain ⟨q0, hq0, hr0⟩ := hR.reader
      have hk0 : k < 31 := hk
      clear hl hd hold hk
      go_simp
      refine (pick_any _ _ _ _ hr0 (by omega)).mono ?_
      rintro e w1 ⟨x, rfl, hx, hr1, hk1⟩
      have hx1 := hx (by omega)
      exact ⟨_, rfl, ⟨x, rfl, hx1.1, by omega⟩, hR.gone hY hB (by omega) hr1 hk1, hk1.toS hB⟩
    · intro a wr k hk hl hR hd hold
      obtain ⟨x25, d25, l25, u25⟩ : NumIn 0 255 (a.tmps.getD 25 undef) := hd ⟨18, .data⟩ (by simp) rfl
      refine wpOp_at _ rfl rfl ?_
      have f25 := getD_form d25
      clear hl hd hold hk
      go_simp
      exact ⟨_, rfl, ⟨_, rfl⟩, hR.next (by decide), KeptS.refl _ _⟩
    · intro a wr k hk hl hR hd hold
      obtain ⟨x26, d26⟩ : IsNum (a.tmps.getD 26 undef) := hd ⟨19, .data⟩ (by simp) rfl
      refine wpOp_at _ rfl rfl ?_
      have f26 := getD_form d26
      clear hl hd hold hk
      go_simp
      exact ⟨_, rfl, ⟨_, rfl⟩, hR.next (by decide), KeptS.refl _ _⟩
    · intro a wr k hk hl hR hd hold
      obtain ⟨x23, d23, l23, u23⟩ : NumIn 1 256 (a.tmps.getD 23 undef) := hd ⟨16, .data⟩ (by simp) rfl
      obtain ⟨x27, d27⟩ : IsNum (a.tmps.getD 27 undef) := hd ⟨20, .data⟩ (by simp) rfl
      refine wpOp_at _ rfl rfl ?_
      have f23 := getD_form d23
      have f27 := getD_form d27
      clear hl hd hold hk
      go_simp
      exact ⟨_, rfl, RowNum.made hR.fresh _ _ 5 rfl rfl, hR.alloc (by decide) hY _, (KeptS.refl _ _).alloc _⟩
    · intro a wr k hk hl hR hd hold
      refine wpOp_at _ rfl rfl ?_
      clear hl hd hold hk
      go_simp
      exact ⟨_, rfl, RowIn.made hR.fresh _ _ 7 0 4 rfl rfl, hR.alloc (by decide) hY _, (KeptS.refl _ _).alloc _⟩
    · intro a wr k hk hl hR hd hold
      have d4 : a.tmps.getD 4 undef = .pointer (some ⟨_, 0, none⟩) := hl.rest 4 (not_dst rfl)
      refine wpOp_at _ rfl rfl ?_
      have f4 := getD_form d4
      clear hl hd hold hk
      go_simp
      exact ⟨_, rfl, rfl, hR.next (by decide), KeptS.refl _ _⟩
    · intro a wr k hk hl hR hd hold
      have d30 : a.tmps.getD 30 undef = .pointer (some ⟨_, 0, none⟩) := hd ⟨23, .data⟩ (by simp) rfl
      refine wpOp_at _ rfl rfl ?_
      have f30 := getD_form d30
      obtain ⟨q0, hq0, hr0⟩ := hR.reader
      have hk0 : k < 31 := hk
      clear hl hd hold hk
      go_simp
      refine (pick_any _ _ _ _ hr0 (by omega)).mono ?_
      rintro e w1 ⟨x, rfl, hx, hr1, hk1⟩
      have hx1 := hx (by omega)
      exact ⟨_, rfl, ⟨x, rfl, hx1.1, by omega⟩, hR.gone hY hB (by omega) hr1 hk1, hk1.toS hB⟩
    · intro a wr k hk hl hR hd hold
      obtain ⟨b29, d29, n29, s29, c29⟩ : RowIn _ 7 0 4 (a.tmps.getD 29 undef) wr := hd ⟨22, .data⟩ (by simp) rfl
      obtain ⟨x31, d31, l31, u31⟩ : NumIn 0 6 (a.tmps.getD 31 undef) := hd ⟨24, .data⟩ (by simp) rfl
      refine wpOp_at _ rfl rfl ?_
      have f29 := getD_form d29
      have f31 := getD_form d31
      have z31 : 0 ≤ x31 ∧ x31 < 7 := ⟨by omega, by omega⟩
      clear hl hd hold hk
      have C29 := Lib.hid c29
      clear c29
      go_simp
      exact ⟨_, rfl, row_in n29 s29 C29.out z31, hR.next (by decide), KeptS.refl _ _⟩
    · intro a wr k hk hl hR hd hold
      obtain ⟨b32, i32, d32, n32, s32, y32, c32, l32, u32⟩ : AtIn _ 0 4 (a.tmps.getD 32 undef) wr := hd ⟨25, .data⟩ (by simp) rfl
      refine wpOp_at _ rfl rfl ?_
      have f32 := getD_form d32
      clear hl hd hold hk
      go_simp
      exact ⟨_, rfl, ⟨_, rfl, l32, u32⟩, hR.next (by decide), KeptS.refl _ _⟩
    · intro a wr k hk hl hR hd hold
      obtain ⟨b28, d28, n28, s28, c28⟩ : RowNum _ 5 (a.tmps.getD 28 undef) wr := hd ⟨21, .data⟩ (by simp) rfl
      obtain ⟨x33, d33, l33, u33⟩ : NumIn 0 4 (a.tmps.getD 33 undef) := hd ⟨26, .data⟩ (by simp) rfl
      refine wpOp_at _ rfl rfl ?_
      have f28 := getD_form d28
      have f33 := getD_form d33
      have z33 : 0 ≤ x33 ∧ x33 < 5 := ⟨by omega, by omega⟩
      clear hl hd hold hk
      have C28 := Lib.hid c28
      clear c28
      go_simp
      exact ⟨_, rfl, row_num n28 s28 C28.out z33, hR.next (by decide), KeptS.refl _ _⟩
    · intro a wr k hk hl hR hd hold
      obtain ⟨b34, i34, d34, n34, s34, y34, c34⟩ : AtNum _ (a.tmps.getD 34 undef) wr := hd ⟨27, .data⟩ (by simp) rfl
      refine wpOp_at _ rfl rfl ?_
      have f34 := getD_form d34
      clear hl hd hold hk
      go_simp
      exact ⟨_, rfl, ⟨_, rfl⟩, hR.next (by decide), KeptS.refl _ _⟩
    · intro a wr k hk hl hR hd hold
      obtain ⟨x20, d20⟩ : IsNum (a.tmps.getD 20 undef) := hd ⟨13, .data⟩ (by simp) rfl
      refine wpOp_at _ rfl rfl ?_
      have f20 := getD_form d20
      clear hl hd hold hk
      go_simp
      exact ⟨_, rfl, ⟨_, rfl⟩, hR.next (by decide), KeptS.refl _ _⟩
    · intro a wr k hk hl hR hd hold
      obtain ⟨x35, d35⟩ : IsNum (a.tmps.getD 35 undef) := hd ⟨28, .data⟩ (by simp) rfl
      refine wpOp_at _ rfl rfl ?_
      have f35 := getD_form d35
      clear hl hd hold hk
      go_simp
      exact ⟨_, rfl, ⟨_, rfl⟩, hR.next (by decide), KeptS.refl _ _⟩
  ·
    intro a wr k hk0 hl hR hT
    obtain ⟨x2, d2⟩ : IsNum (a.tmps.getD 2 undef) := hT 29 (by decide)
    obtain ⟨x3, d3⟩ : IsNum (a.tmps.getD 3 undef) := hT 30 (by decide)
    have d7 : a.tmps.getD 7 undef = .pointer (some ⟨_, 0, none⟩) := hT 0 (by decide)
    obtain ⟨x8, d8, l8, u8⟩ : NumIn 0 255 (a.tmps.getD 8 undef) := hT 1 (by decide)
    obtain ⟨x9, d9, l9, u9⟩ : NumIn (-128) 127 (a.tmps.getD 9 undef) := hT 2 (by decide)
    have d10 : a.tmps.getD 10 undef = .pointer (some ⟨_, 0, none⟩) := hT 3 (by decide)
    obtain ⟨x11, d11, l11, u11⟩ : NumIn 0 255 (a.tmps.getD 11 undef) := hT 4 (by decide)
    obtain ⟨x12, d12⟩ : IsNum (a.tmps.getD 12 undef) := hT 5 (by decide)
    obtain ⟨b13, d13, -⟩ : RowNum _ 5 (a.tmps.getD 13 undef) wr := hT 6 (by decide)
    obtain ⟨b14, d14, -⟩ : RowIn _ 7 0 4 (a.tmps.getD 14 undef) wr := hT 7 (by decide)
    have d15 : a.tmps.getD 15 undef = .pointer (some ⟨_, 0, none⟩) := hT 8 (by decide)
    obtain ⟨x16, d16, l16, u16⟩ : NumIn 0 6 (a.tmps.getD 16 undef) := hT 9 (by decide)
    obtain ⟨b17, i17, d17, -⟩ : AtIn _ 0 4 (a.tmps.getD 17 undef) wr := hT 10 (by decide)
    obtain ⟨x18, d18, l18, u18⟩ : NumIn 0 4 (a.tmps.getD 18 undef) := hT 11 (by decide)
    obtain ⟨b19, i19, d19, -⟩ : AtNum _ (a.tmps.getD 19 undef) wr := hT 12 (by decide)
    obtain ⟨x20, d20⟩ : IsNum (a.tmps.getD 20 undef) := hT 13 (by decide)
    have d21 : a.tmps.getD 21 undef = .pointer (some ⟨_, 0, none⟩) := hT 14 (by decide)
    obtain ⟨x22, d22, l22, u22⟩ : NumIn 0 255 (a.tmps.getD 22 undef) := hT 15 (by decide)
    obtain ⟨x23, d23, l23, u23⟩ : NumIn 1 256 (a.tmps.getD 23 undef) := hT 16 (by decide)
    have d24 : a.tmps.getD 24 undef = .pointer (some ⟨_, 0, none⟩) := hT 17 (by decide)
    obtain ⟨x25, d25, l25, u25⟩ : NumIn 0 255 (a.tmps.getD 25 undef) := hT 18 (by decide)
    obtain ⟨x26, d26⟩ : IsNum (a.tmps.getD 26 undef) := hT 19 (by decide)
    obtain ⟨x27, d27⟩ : IsNum (a.tmps.getD 27 undef) := hT 20 (by decide)
    obtain ⟨b28, d28, -⟩ : RowNum _ 5 (a.tmps.getD 28 undef) wr := hT 21 (by decide)
    obtain ⟨b29, d29, -⟩ : RowIn _ 7 0 4 (a.tmps.getD 29 undef) wr := hT 22 (by decide)
    have d30 : a.tmps.getD 30 undef = .pointer (some ⟨_, 0, none⟩) := hT 23 (by decide)
    obtain ⟨x31, d31, l31, u31⟩ : NumIn 0 6 (a.tmps.getD 31 undef) := hT 24 (by decide)
    obtain ⟨b32, i32, d32, -⟩ : AtIn _ 0 4 (a.tmps.getD 32 undef) wr := hT 25 (by decide)
    obtain ⟨x33, d33, l33, u33⟩ : NumIn 0 4 (a.tmps.getD 33 undef) := hT 26 (by decide)
    obtain ⟨b34, i34, d34, -⟩ : AtNum _ (a.tmps.getD 34 undef) wr := hT 27 (by decide)
    obtain ⟨x35, d35⟩ : IsNum (a.tmps.getD 35 undef) := hT 28 (by decide)
    have ea := Fxr.act_ext a [_, _, _, _, _, _, _, _, _, _, _, _, _, _, _, _, _, _, _, _, _, _, _, _, _, _, _, _, _, _, _, _, _, _, _, _] hl.defers (by exact hl.size) ⟨hl.rest 0 (not_dst rfl), hl.rest 1 (not_dst rfl), d2, d3, hl.rest 4 (not_dst rfl), hl.rest 5 (not_dst rfl), hl.rest 6 (not_dst rfl), d7, d8, d9, d10, d11, d12, d13, d14, d15, d16, d17, d18, d19, d20, d21, d22, d23, d24, d25, d26, d27, d28, d29, d30, d31, d32, d33, d34, d35, trivial⟩
    clear hT hl
    subst ea
    have hK := hR.toKept hK (by simp)
    clear hR hr hBS
    go_wp2
    go_ret2
    exact ⟨_, _, rfl, hK.below hB (Nat.le_refl _)⟩

end Go.Proofs.Ytkogpcabemklhaa
