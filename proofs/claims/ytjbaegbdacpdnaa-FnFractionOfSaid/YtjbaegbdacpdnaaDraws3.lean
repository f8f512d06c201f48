/-
  The draws of formats and stored numbers, third part: regions that draw their order.
-/
import Derived.Test.YtjbaegbdacpdnaaDraws1
namespace Go.Proofs.Ytjbaegbdacpdnaa
open Go.RowKit

set_option linter.unusedVariables false in
def kindsWholeOf (S : List Nat) (B : Nat) : Nat → Value → World → Prop
  | 0, v, _ => IsPair v
  | 1, v, _ => IsRd B v
  | 2, v, _ => IsPair v
  | 3, v, _ => IsNum v
  | 4, v, _ => True
  | 5, v, _ => IsNum v
  | _, _, _ => True
set_option linter.unusedVariables false in
theorem kindsWholeOf_keep (S : List Nat) (B : Nat) (j : Nat) (v : Value) (w w' : World) (h : kindsWholeOf S B j v w) (k : KeptS S w w') : kindsWholeOf S B j v w' := by
  unfold kindsWholeOf at *
  split at h <;> first | exact h | exact h.keep k

set_option maxHeartbeats 4000000 in
theorem drawWholeOf_any (a : Option Addr) (len cap : Nat) (zs : Nat → Int) (w : World) (h : Row8 w w.heap.size a len cap zs) :
    Calls Try.prog 54 #[.slice a len cap] w (DrewFI w) := by
  have H := Lib.hid h
  clear h
  go_enter Try.func54, Try.ntmps54
  go_wp2_with fail
  refine (l20Open_at _ _ _ _ w.heap.size _ (H.out.through ((Below.refl _ _).alloc (Nat.le_refl _) _)) (by simp)).mono ?_
  rintro e w1 ⟨B, hB, rfl, hr, hk, ha⟩
  have hx := Box.opened hB hr hk (ha _ (Nat.le_refl _)) rfl
  have hK := ((Kept.refl B w).alloc _).trans hk
  have hB : w.heap.size ≤ B := by simp at hB; omega
  clear hk ha H
  go_wp2_with fail
  refine (l20Format_any _ _ _ _ hr (by omega) (by omega)).mono ?_
  rintro e w2 ⟨f1, f2, rfl, ⟨q, hq, hr2⟩, hk2⟩
  have hx := (hx.keep hk2).alloc (.cells #[.int .i64 f1, .int .i64 f2] 32)
  have hy := Box.made (.int .i64 f1) (.int .i64 f2) 32 hr2
  have hK := (hK.trans hk2).alloc (.cells #[.int .i64 f1, .int .i64 f2] 32)
  have hr3 := hr2.alloc (.cells #[.int .i64 f1, .int .i64 f2] 32)
  clear hk2 hr2 hr
  go_wp2_with fail
  have hY := staysS_true [B, w.heap.size]
  have hBS : B ∈ [B, w.heap.size] := by simp
  refine Fxr.wp_region_typed (kindsWholeOf [B, w.heap.size] B) (ReadsP [B, w.heap.size] (w2.alloc (.cells #[.int .i64 f1, .int .i64 f2] 32)) B q 1000 [w.heap.size, w2.heap.size] (fun _ => True)) (KeptS [B, w.heap.size]) (by kernel_rfl) (by kernel_rfl) (by kernel_rfl) rfl (kindsWholeOf_keep _ _)
    ⟨⟨q, by omega, hr3⟩, (KeptS.refl _ _).drewN 1, by have := hr3.1; have := hx.1.1; simp at *; omega, (Pairs.cons hx (Pairs.cons hy (Pairs.none _ _))).drewN 1, trivial, rfl⟩ ?_ ?_
  · have hB := hBS
    clear hK hx hy hr3 hBS
    refine ⟨?_, ?_, ?_, ?_, ?_, ?_, trivial⟩
    · intro a wr k hk hl hR hd hold
      have d5 : a.tmps.getD 5 undef = .pointer (some ⟨w2.heap.size, 0, none⟩) := hl.rest 5 (not_dst rfl)
      refine wpOp_at _ rfl rfl ?_
      have f5 := getD_form d5
      obtain ⟨x0, y0, ⟨t0, t1, -⟩, ⟨e0, e1⟩, f0, f1⟩ := hR.pairs w2.heap.size (by simp)
      clear hl hd hold hk
      go_simp
      exact ⟨_, rfl, ⟨_, _, rfl⟩, hR.next (by decide), KeptS.refl _ _⟩
    · intro a wr k hk hl hR hd hold
      have d4 : a.tmps.getD 4 undef = .pointer (some ⟨_, 0, none⟩) := hl.rest 4 (not_dst rfl)
      refine wpOp_at _ rfl rfl ?_
      have f4 := getD_form d4
      clear hl hd hold hk
      go_simp
      exact ⟨_, rfl, rfl, hR.next (by decide), KeptS.refl _ _⟩
    · intro a wr k hk hl hR hd hold
      have d5 : a.tmps.getD 5 undef = .pointer (some ⟨w2.heap.size, 0, none⟩) := hl.rest 5 (not_dst rfl)
      refine wpOp_at _ rfl rfl ?_
      have f5 := getD_form d5
      obtain ⟨x0, y0, ⟨t0, t1, -⟩, ⟨e0, e1⟩, f0, f1⟩ := hR.pairs w2.heap.size (by simp)
      clear hl hd hold hk
      go_simp
      exact ⟨_, rfl, ⟨_, _, rfl⟩, hR.next (by decide), KeptS.refl _ _⟩
    · intro a wr k hk hl hR hd hold
      have d11 : a.tmps.getD 11 undef = .pointer (some ⟨_, 0, none⟩) := hd ⟨1, .data⟩ (by simp) rfl
      obtain ⟨x12, y12, d12⟩ : IsPair (a.tmps.getD 12 undef) := hd ⟨2, .data⟩ (by simp) rfl
      refine wpOp_at _ rfl rfl ?_
      have f11 := getD_form d11
      have f12 := getD_form d12
      obtain ⟨q0, hq0, hr0⟩ := hR.reader
      have hk0 : k < 6 := hk
      clear hl hd hold hk
      go_simp
      refine (l20Stored_any _ _ _ _ _ _ hr0 (by omega) (by omega)).mono ?_
      rintro e w1 ⟨x, rfl, ⟨q1, hq1, hr1⟩, hk1⟩
      exact ⟨_, rfl, ⟨x, rfl⟩, hR.gone hY hB (by omega) hr1 hk1, hk1.toS hB⟩
    · intro a wr k hk hl hR hd hold
      have d2 : a.tmps.getD 2 undef = .pointer (some ⟨w.heap.size, 0, none⟩) := hl.rest 2 (not_dst rfl)
      obtain ⟨x10, y10, d10⟩ : IsPair (a.tmps.getD 10 undef) := hd ⟨0, .data⟩ (by simp) rfl
      refine wpOp_at _ rfl rfl ?_
      have f2 := getD_form d2
      have f10 := getD_form d10
      obtain ⟨x0, y0, ⟨t0, t1, -⟩, ⟨e0, e1⟩, f0, f1⟩ := hR.pairs w.heap.size (by simp)
      clear hl hd hold hk
      go_simp
      exact ⟨⟨undef, trivial⟩, hR.put (by decide) hY (b := w.heap.size) (by simp) (by simp) x10 y10, keptS_put2 (b := w.heap.size) (by simp) _ _⟩
    · intro a wr k hk hl hR hd hold
      obtain ⟨x13, d13⟩ : IsNum (a.tmps.getD 13 undef) := hd ⟨3, .data⟩ (by simp) rfl
      refine wpOp_at _ rfl rfl ?_
      have f13 := getD_form d13
      clear hl hd hold hk
      go_simp
      exact ⟨_, rfl, ⟨_, rfl⟩, hR.next (by decide), KeptS.refl _ _⟩
  ·
    intro a wr k hk0 hl hR hT
    obtain ⟨x3, d3⟩ : IsNum (a.tmps.getD 3 undef) := hT 5 (by decide)
    obtain ⟨x10, y10, d10⟩ : IsPair (a.tmps.getD 10 undef) := hT 0 (by decide)
    have d11 : a.tmps.getD 11 undef = .pointer (some ⟨_, 0, none⟩) := hT 1 (by decide)
    obtain ⟨x12, y12, d12⟩ : IsPair (a.tmps.getD 12 undef) := hT 2 (by decide)
    obtain ⟨x13, d13⟩ : IsNum (a.tmps.getD 13 undef) := hT 3 (by decide)
    have ea := Fxr.act_ext a [_, _, _, _, _, _, _, _, _, _, _, _, _, _] hl.defers (by exact hl.size) ⟨hl.rest 0 (not_dst rfl), hl.rest 1 (not_dst rfl), hl.rest 2 (not_dst rfl), d3, hl.rest 4 (not_dst rfl), hl.rest 5 (not_dst rfl), hl.rest 6 (not_dst rfl), hl.rest 7 (not_dst rfl), hl.rest 8 (not_dst rfl), hl.rest 9 (not_dst rfl), d10, d11, d12, d13, trivial⟩
    clear hT hl
    subst ea
    have hK := hR.toKept hK (by simp)
    obtain ⟨xa, ya, -, ⟨e0, e1⟩, -⟩ := hR.pairs w.heap.size (by simp)
    clear hR hx hy hr3 hBS
    go_wp2
    (try simp only [Exit.inBlock, Exit.then])
    exact bodyPost_ret (v := .tuple #[.agg #[.int .i64 xa, .int .i64 ya], .int .i64 x3]) (by simp [results, Try.results54, go_sem, e0, e1]) rfl ⟨_, _, _, rfl, hK.below hB (Nat.le_refl _)⟩

set_option linter.unusedVariables false in
def kindsToFormat (S : List Nat) (B : Nat) : Nat → Value → World → Prop
  | 0, v, _ => IsNum v
  | 1, v, _ => IsPair v
  | 2, v, _ => IsRd B v
  | 3, v, _ => IsPair v
  | 4, v, _ => IsNum v
  | 5, v, _ => True
  | 6, v, _ => True
  | _, _, _ => True
set_option linter.unusedVariables false in
theorem kindsToFormat_keep (S : List Nat) (B : Nat) (j : Nat) (v : Value) (w w' : World) (h : kindsToFormat S B j v w) (k : KeptS S w w') : kindsToFormat S B j v w' := by
  unfold kindsToFormat at *
  split at h <;> first | exact h | exact h.keep k

set_option maxHeartbeats 4000000 in
theorem drawToFormat_any (a : Option Addr) (len cap : Nat) (zs : Nat → Int) (w : World) (h : Row8 w w.heap.size a len cap zs) :
    Calls Try.prog 58 #[.slice a len cap] w (DrewIFF w) := by
  have H := Lib.hid h
  clear h
  go_enter Try.func58, Try.ntmps58
  go_wp2_with fail
  refine (l20Open_at _ _ _ _ w.heap.size _ (H.out.through (((Below.refl _ _).alloc (Nat.le_refl _) _).alloc (by simp) _)) (by simp; omega)).mono ?_
  rintro e w1 ⟨B, hB, rfl, hr, hk, ha⟩
  have hx := Box.opened2 (by simpa using hB) hr hk (ha _ (Nat.le_refl _)) rfl
  have hz := Box.opened hB hr hk (b := w.heap.size + 1) (ha _ (by simp)) (by simp)
  have hK := (((Kept.refl B w).alloc _).alloc _).trans hk
  have hB : w.heap.size ≤ B := by simp at hB; omega
  clear hk ha H
  go_wp2_with fail
  refine (l20Format_any _ _ _ _ hr (by omega) (by omega)).mono ?_
  rintro e w2 ⟨f1, f2, rfl, ⟨q, hq, hr2⟩, hk2⟩
  have hx := (hx.keep hk2).alloc (.cells #[.int .i64 f1, .int .i64 f2] 32)
  have hz := (hz.keep hk2).alloc (.cells #[.int .i64 f1, .int .i64 f2] 32)
  have hy := Box.made (.int .i64 f1) (.int .i64 f2) 32 hr2
  have hK := (hK.trans hk2).alloc (.cells #[.int .i64 f1, .int .i64 f2] 32)
  have hr3 := hr2.alloc (.cells #[.int .i64 f1, .int .i64 f2] 32)
  clear hk2 hr2 hr
  go_wp2_with fail
  refine (l20Stored_any _ _ _ _ _ _ hr3 (by omega) (by omega)).mono ?_
  rintro e w3 ⟨n, rfl, ⟨q3, hq3, hr4⟩, hk3⟩
  have hx := hx.keep hk3
  have hy := hy.keep hk3
  have hz := hz.keep hk3
  have hK := hK.trans hk3
  clear hk3 hr3
  go_wp2_with fail
  have hY := staysS_true [B, w.heap.size, w.heap.size+1]
  have hBS : B ∈ [B, w.heap.size, w.heap.size+1] := by simp
  refine Fxr.wp_region_typed (kindsToFormat [B, w.heap.size, w.heap.size+1] B) (ReadsP [B, w.heap.size, w.heap.size+1] w3 B q3 1000 [w.heap.size, w.heap.size+1, w2.heap.size] (fun _ => True)) (KeptS [B, w.heap.size, w.heap.size+1]) (by kernel_rfl) (by kernel_rfl) (by kernel_rfl) rfl (kindsToFormat_keep _ _)
    ⟨⟨q3, by omega, hr4⟩, (KeptS.refl _ _).drewN 1, by have := hr4.1; have := hx.1.1; have := hz.1.1; simp at *; omega, (Pairs.cons hx (Pairs.cons hz (Pairs.cons hy (Pairs.none _ _)))).drewN 1, trivial, rfl⟩ ?_ ?_
  · have hB := hBS
    clear hK hx hy hz hr4 hBS
    refine ⟨?_, ?_, ?_, ?_, ?_, ?_, ?_, trivial⟩
    · intro a wr k hk hl hR hd hold
      have d7 : a.tmps.getD 7 undef = .int .i64 n := hl.rest 7 (not_dst rfl)
      refine wpOp_at _ rfl rfl ?_
      have f7 := getD_form d7
      clear hl hd hold hk
      go_simp
      exact ⟨_, rfl, ⟨_, rfl⟩, hR.next (by decide), KeptS.refl _ _⟩
    · intro a wr k hk hl hR hd hold
      have d6 : a.tmps.getD 6 undef = .pointer (some ⟨w2.heap.size, 0, none⟩) := hl.rest 6 (not_dst rfl)
      refine wpOp_at _ rfl rfl ?_
      have f6 := getD_form d6
      obtain ⟨x0, y0, ⟨t0, t1, -⟩, ⟨e0, e1⟩, f0, f1⟩ := hR.pairs w2.heap.size (by simp)
      clear hl hd hold hk
      go_simp
      exact ⟨_, rfl, ⟨_, _, rfl⟩, hR.next (by decide), KeptS.refl _ _⟩
    · intro a wr k hk hl hR hd hold
      have d5 : a.tmps.getD 5 undef = .pointer (some ⟨_, 0, none⟩) := hl.rest 5 (not_dst rfl)
      refine wpOp_at _ rfl rfl ?_
      have f5 := getD_form d5
      clear hl hd hold hk
      go_simp
      exact ⟨_, rfl, rfl, hR.next (by decide), KeptS.refl _ _⟩
    · intro a wr k hk hl hR hd hold
      have d17 : a.tmps.getD 17 undef = .pointer (some ⟨_, 0, none⟩) := hd ⟨2, .data⟩ (by simp) rfl
      refine wpOp_at _ rfl rfl ?_
      have f17 := getD_form d17
      obtain ⟨q0, hq0, hr0⟩ := hR.reader
      have hk0 : k < 7 := hk
      clear hl hd hold hk
      go_simp
      refine (l20Format_any _ _ _ _ hr0 (by omega) (by omega)).mono ?_
      rintro e w1 ⟨x, y, rfl, ⟨q1, hq1, hr1⟩, hk1⟩
      exact ⟨_, rfl, ⟨x, y, rfl⟩, hR.gone hY hB (by omega) hr1 hk1, hk1.toS hB⟩
    · intro a wr k hk hl hR hd hold
      obtain ⟨x15, d15⟩ : IsNum (a.tmps.getD 15 undef) := hd ⟨0, .data⟩ (by simp) rfl
      refine wpOp_at _ rfl rfl ?_
      have f15 := getD_form d15
      clear hl hd hold hk
      go_simp
      exact ⟨_, rfl, ⟨_, rfl⟩, hR.next (by decide), KeptS.refl _ _⟩
    · intro a wr k hk hl hR hd hold
      have d3 : a.tmps.getD 3 undef = .pointer (some ⟨w.heap.size, 0, none⟩) := hl.rest 3 (not_dst rfl)
      obtain ⟨x16, y16, d16⟩ : IsPair (a.tmps.getD 16 undef) := hd ⟨1, .data⟩ (by simp) rfl
      refine wpOp_at _ rfl rfl ?_
      have f3 := getD_form d3
      have f16 := getD_form d16
      obtain ⟨x0, y0, ⟨t0, t1, -⟩, ⟨e0, e1⟩, f0, f1⟩ := hR.pairs w.heap.size (by simp)
      clear hl hd hold hk
      go_simp
      exact ⟨⟨undef, trivial⟩, hR.put (by decide) hY (b := w.heap.size) (by simp) (by simp) x16 y16, keptS_put2 (b := w.heap.size) (by simp) _ _⟩
    · intro a wr k hk hl hR hd hold
      have d4 : a.tmps.getD 4 undef = .pointer (some ⟨(w.heap.size+1), 0, none⟩) := hl.rest 4 (not_dst rfl)
      obtain ⟨x18, y18, d18⟩ : IsPair (a.tmps.getD 18 undef) := hd ⟨3, .data⟩ (by simp) rfl
      refine wpOp_at _ rfl rfl ?_
      have f4 := getD_form d4
      have f18 := getD_form d18
      obtain ⟨x0, y0, ⟨t0, t1, -⟩, ⟨e0, e1⟩, f0, f1⟩ := hR.pairs (w.heap.size+1) (by simp)
      clear hl hd hold hk
      go_simp
      exact ⟨⟨undef, trivial⟩, hR.put (by decide) hY (b := (w.heap.size+1)) (by simp) (by simp) x18 y18, keptS_put2 (b := (w.heap.size+1)) (by simp) _ _⟩
  ·
    intro a wr k hk0 hl hR hT
    obtain ⟨x2, d2⟩ : IsNum (a.tmps.getD 2 undef) := hT 4 (by decide)
    obtain ⟨x15, d15⟩ : IsNum (a.tmps.getD 15 undef) := hT 0 (by decide)
    obtain ⟨x16, y16, d16⟩ : IsPair (a.tmps.getD 16 undef) := hT 1 (by decide)
    have d17 : a.tmps.getD 17 undef = .pointer (some ⟨_, 0, none⟩) := hT 2 (by decide)
    obtain ⟨x18, y18, d18⟩ : IsPair (a.tmps.getD 18 undef) := hT 3 (by decide)
    have ea := Fxr.act_ext a [_, _, _, _, _, _, _, _, _, _, _, _, _, _, _, _, _, _, _] hl.defers (by exact hl.size) ⟨hl.rest 0 (not_dst rfl), hl.rest 1 (not_dst rfl), d2, hl.rest 3 (not_dst rfl), hl.rest 4 (not_dst rfl), hl.rest 5 (not_dst rfl), hl.rest 6 (not_dst rfl), hl.rest 7 (not_dst rfl), hl.rest 8 (not_dst rfl), hl.rest 9 (not_dst rfl), hl.rest 10 (not_dst rfl), hl.rest 11 (not_dst rfl), hl.rest 12 (not_dst rfl), hl.rest 13 (not_dst rfl), hl.rest 14 (not_dst rfl), d15, d16, d17, d18, trivial⟩
    clear hT hl
    subst ea
    have hK := hR.toKept hK (by simp)
    obtain ⟨xa, ya, -, ⟨e0, e1⟩, -⟩ := hR.pairs w.heap.size (by simp)
    obtain ⟨xb, yb, -, ⟨e2, e3⟩, -⟩ := hR.pairs (w.heap.size+1) (by simp)
    clear hR hx hy hz hr4 hBS
    go_wp2
    (try simp only [Exit.inBlock, Exit.then])
    exact bodyPost_ret (v := .tuple #[.int .i64 x2, .agg #[.int .i64 xa, .int .i64 ya], .agg #[.int .i64 xb, .int .i64 yb]]) (by simp [results, Try.results58, go_sem, e0, e1, e2, e3]) rfl ⟨_, _, _, _, _, rfl, hK.below hB (Nat.le_refl _)⟩

set_option linter.unusedVariables false in
def kindsFractionOf (S : List Nat) (B : Nat) : Nat → Value → World → Prop
  | 0, v, _ => IsPair v
  | 1, v, _ => IsNum v
  | 2, v, _ => IsRd B v
  | 3, v, _ => NumIn 0 39 v
  | 4, v, _ => NumIn 1 40 v
  | 5, v, _ => IsRd B v
  | 6, v, _ => NumIn 0 40 v
  | 7, v, _ => IsNum v
  | 8, v, w => RowNum S 4 v w
  | 9, v, w => RowIn S 7 0 3 v w
  | 10, v, _ => IsRd B v
  | 11, v, _ => NumIn 0 6 v
  | 12, v, w => AtIn S 0 3 v w
  | 13, v, _ => NumIn 0 3 v
  | 14, v, w => AtNum S v w
  | 15, v, _ => IsNum v
  | 16, v, _ => True
  | 17, v, _ => IsNum v
  | 18, v, _ => IsNum v
  | _, _, _ => True
set_option linter.unusedVariables false in
theorem kindsFractionOf_keep (S : List Nat) (B : Nat) (j : Nat) (v : Value) (w w' : World) (h : kindsFractionOf S B j v w) (k : KeptS S w w') : kindsFractionOf S B j v w' := by
  unfold kindsFractionOf at *
  split at h <;> first | exact h | exact h.keep k

set_option maxHeartbeats 4000000 in
theorem drawFractionOf_any (a : Option Addr) (len cap : Nat) (zs : Nat → Int) (w : World) (h : Row8 w w.heap.size a len cap zs) :
    Calls Try.prog 48 #[.slice a len cap] w (DrewFII w) := by
  have H := Lib.hid h
  clear h
  go_enter Try.func48, Try.ntmps48
  go_wp2_with fail
  refine (l20Open_at _ _ _ _ w.heap.size _ (H.out.through ((Below.refl _ _).alloc (Nat.le_refl _) _)) (by simp)).mono ?_
  rintro e w1 ⟨B, hB, rfl, hr, hk, ha⟩
  have hx := Box.opened hB hr hk (ha _ (Nat.le_refl _)) rfl
  have hK := ((Kept.refl B w).alloc _).trans hk
  have hB : w.heap.size ≤ B := by simp at hB; omega
  clear hk ha H
  go_wp2_with fail
  refine (l20Format_any _ _ _ _ hr (by omega) (by omega)).mono ?_
  rintro e w2 ⟨f1, f2, rfl, ⟨q, hq, hr2⟩, hk2⟩
  have hx := (hx.keep hk2).alloc (.cells #[.int .i64 f1, .int .i64 f2] 32)
  have hy := Box.made (.int .i64 f1) (.int .i64 f2) 32 hr2
  have hK := (hK.trans hk2).alloc (.cells #[.int .i64 f1, .int .i64 f2] 32)
  have hr3 := hr2.alloc (.cells #[.int .i64 f1, .int .i64 f2] 32)
  clear hk2 hr2 hr
  go_wp2_with fail
  refine (pick_any _ _ _ _ hr3 (by omega)).mono ?_
  rintro e w3 ⟨x3, rfl, hx3, hr4, hk3⟩
  have g3 := hx3 (by omega)
  go_wp2_with fail
  refine (pick_any _ _ _ _ hr4 (by omega)).mono ?_
  rintro e w4 ⟨x4, rfl, hx4, hr5, hk4⟩
  have g4 := hx4 (by omega)
  go_wp2_with fail
  refine (pick_any _ _ _ _ ((hr5.alloc _).alloc _) (by omega)).mono ?_
  rintro e w5 ⟨x5, rfl, hx5, hr6, hk5⟩
  have g5 := hx5 (by omega)
  obtain ⟨v, hv, c1⟩ := hk5.tab2 hr5.1 0 4 rfl x5.toNat (by simp; omega)
  obtain ⟨n, c2⟩ := hk5.row2 hr5.1 rfl v.toNat (by simp; omega)
  have hx := ((((hx.keep hk3).keep hk4).alloc _).alloc _).keep hk5
  have hy := ((((hy.keep hk3).keep hk4).alloc _).alloc _).keep hk5
  have hK := ((((hK.trans hk3).trans hk4).alloc _).alloc _).trans hk5
  clear hk3 hk4 hk5 hx3 hx4 hx5 hr3 hr4 hr5
  go_wp2_with fail
  have hY := staysS_true [B, w.heap.size]
  have hBS : B ∈ [B, w.heap.size] := by simp
  refine Fxr.wp_region_typed (kindsFractionOf [B, w.heap.size] B) (ReadsP [B, w.heap.size] w5 B (q + 1 + 1 + 1) 1000 [w.heap.size, w2.heap.size] (fun _ => True)) (KeptS [B, w.heap.size]) (by kernel_rfl) (by kernel_rfl) (by kernel_rfl) rfl (kindsFractionOf_keep _ _)
    ⟨⟨q + 1 + 1 + 1, by omega, hr6⟩, (KeptS.refl _ _).drewN 1, by have := hr6.1; have := hx.1.1; simp at *; omega, (Pairs.cons hx (Pairs.cons hy (Pairs.none _ _))).drewN 1, trivial, rfl⟩ ?_ ?_
  · have hB := hBS
    clear hK hx hy hr6 hBS c1 c2
    refine ⟨?_, ?_, ?_, ?_, ?_, ?_, ?_, ?_, ?_, ?_, ?_, ?_, ?_, ?_, ?_, ?_, ?_, ?_, ?_, trivial⟩
    · intro a wr k hk hl hR hd hold
      have d6 : a.tmps.getD 6 undef = .pointer (some ⟨w2.heap.size, 0, none⟩) := hl.rest 6 (not_dst rfl)
      refine wpOp_at _ rfl rfl ?_
      have f6 := getD_form d6
      obtain ⟨x0, y0, ⟨t0, t1, -⟩, ⟨e0, e1⟩, f0, f1⟩ := hR.pairs w2.heap.size (by simp)
      clear hl hd hold hk
      go_simp
      exact ⟨_, rfl, ⟨_, _, rfl⟩, hR.next (by decide), KeptS.refl _ _⟩
    · intro a wr k hk hl hR hd hold
      have d7 : a.tmps.getD 7 undef = .int .i64 n := hl.rest 7 (not_dst rfl)
      refine wpOp_at _ rfl rfl ?_
      have f7 := getD_form d7
      clear hl hd hold hk
      go_simp
      exact ⟨_, rfl, ⟨_, rfl⟩, hR.next (by decide), KeptS.refl _ _⟩
    · intro a wr k hk hl hR hd hold
      have d5 : a.tmps.getD 5 undef = .pointer (some ⟨_, 0, none⟩) := hl.rest 5 (not_dst rfl)
      refine wpOp_at _ rfl rfl ?_
      have f5 := getD_form d5
      clear hl hd hold hk
      go_simp
      exact ⟨_, rfl, rfl, hR.next (by decide), KeptS.refl _ _⟩
    · intro a wr k hk hl hR hd hold
      have d29 : a.tmps.getD 29 undef = .pointer (some ⟨_, 0, none⟩) := hd ⟨2, .data⟩ (by simp) rfl
      refine wpOp_at _ rfl rfl ?_
      have f29 := getD_form d29
      obtain ⟨q0, hq0, hr0⟩ := hR.reader
      have hk0 : k < 19 := hk
      clear hl hd hold hk
      go_simp
      refine (pick_any _ _ _ _ hr0 (by omega)).mono ?_
      rintro e w1 ⟨x, rfl, hx, hr1, hk1⟩
      have hx1 := hx (by omega)
      exact ⟨_, rfl, ⟨x, rfl, hx1.1, by omega⟩, hR.gone hY hB (by omega) hr1 hk1, hk1.toS hB⟩
    · intro a wr k hk hl hR hd hold
      obtain ⟨x30, d30, l30, u30⟩ : NumIn 0 39 (a.tmps.getD 30 undef) := hd ⟨3, .data⟩ (by simp) rfl
      refine wpOp_at _ rfl rfl ?_
      have f30 := getD_form d30
      clear hl hd hold hk
      go_simp
      exact ⟨_, rfl, ⟨_, rfl, by rw [IntWalk.i64_in _ (by omega)]; omega, by rw [IntWalk.i64_in _ (by omega)]; omega⟩, hR.next (by decide), KeptS.refl _ _⟩
    · intro a wr k hk hl hR hd hold
      have d5 : a.tmps.getD 5 undef = .pointer (some ⟨_, 0, none⟩) := hl.rest 5 (not_dst rfl)
      refine wpOp_at _ rfl rfl ?_
      have f5 := getD_form d5
      clear hl hd hold hk
      go_simp
      exact ⟨_, rfl, rfl, hR.next (by decide), KeptS.refl _ _⟩
    · intro a wr k hk hl hR hd hold
      have d32 : a.tmps.getD 32 undef = .pointer (some ⟨_, 0, none⟩) := hd ⟨5, .data⟩ (by simp) rfl
      refine wpOp_at _ rfl rfl ?_
      have f32 := getD_form d32
      obtain ⟨q0, hq0, hr0⟩ := hR.reader
      have hk0 : k < 19 := hk
      clear hl hd hold hk
      go_simp
      refine (pick_any _ _ _ _ hr0 (by omega)).mono ?_
      rintro e w1 ⟨x, rfl, hx, hr1, hk1⟩
      have hx1 := hx (by omega)
      exact ⟨_, rfl, ⟨x, rfl, hx1.1, by omega⟩, hR.gone hY hB (by omega) hr1 hk1, hk1.toS hB⟩
    · intro a wr k hk hl hR hd hold
      obtain ⟨x33, d33, l33, u33⟩ : NumIn 0 40 (a.tmps.getD 33 undef) := hd ⟨6, .data⟩ (by simp) rfl
      refine wpOp_at _ rfl rfl ?_
      have f33 := getD_form d33
      clear hl hd hold hk
      go_simp
      exact ⟨_, rfl, ⟨_, rfl⟩, hR.next (by decide), KeptS.refl _ _⟩
    · intro a wr k hk hl hR hd hold
      obtain ⟨x31, d31, l31, u31⟩ : NumIn 1 40 (a.tmps.getD 31 undef) := hd ⟨4, .data⟩ (by simp) rfl
      obtain ⟨x34, d34⟩ : IsNum (a.tmps.getD 34 undef) := hd ⟨7, .data⟩ (by simp) rfl
      refine wpOp_at _ rfl rfl ?_
      have f31 := getD_form d31
      have f34 := getD_form d34
      clear hl hd hold hk
      go_simp
      exact ⟨_, rfl, RowNum.made hR.fresh _ _ 4 rfl rfl, hR.alloc (by decide) hY _, (KeptS.refl _ _).alloc _⟩
    · intro a wr k hk hl hR hd hold
      refine wpOp_at _ rfl rfl ?_
      clear hl hd hold hk
      go_simp
      exact ⟨_, rfl, RowIn.made hR.fresh _ _ 7 0 3 rfl rfl, hR.alloc (by decide) hY _, (KeptS.refl _ _).alloc _⟩
    · intro a wr k hk hl hR hd hold
      have d5 : a.tmps.getD 5 undef = .pointer (some ⟨_, 0, none⟩) := hl.rest 5 (not_dst rfl)
      refine wpOp_at _ rfl rfl ?_
      have f5 := getD_form d5
      clear hl hd hold hk
      go_simp
      exact ⟨_, rfl, rfl, hR.next (by decide), KeptS.refl _ _⟩
    · intro a wr k hk hl hR hd hold
      have d37 : a.tmps.getD 37 undef = .pointer (some ⟨_, 0, none⟩) := hd ⟨10, .data⟩ (by simp) rfl
      refine wpOp_at _ rfl rfl ?_
      have f37 := getD_form d37
      obtain ⟨q0, hq0, hr0⟩ := hR.reader
      have hk0 : k < 19 := hk
      clear hl hd hold hk
      go_simp
      refine (pick_any _ _ _ _ hr0 (by omega)).mono ?_
      rintro e w1 ⟨x, rfl, hx, hr1, hk1⟩
      have hx1 := hx (by omega)
      exact ⟨_, rfl, ⟨x, rfl, hx1.1, by omega⟩, hR.gone hY hB (by omega) hr1 hk1, hk1.toS hB⟩
    · intro a wr k hk hl hR hd hold
      obtain ⟨b36, d36, n36, s36, c36⟩ : RowIn _ 7 0 3 (a.tmps.getD 36 undef) wr := hd ⟨9, .data⟩ (by simp) rfl
      obtain ⟨x38, d38, l38, u38⟩ : NumIn 0 6 (a.tmps.getD 38 undef) := hd ⟨11, .data⟩ (by simp) rfl
      refine wpOp_at _ rfl rfl ?_
      have f36 := getD_form d36
      have f38 := getD_form d38
      have z38 : 0 ≤ x38 ∧ x38 < 7 := ⟨by omega, by omega⟩
      clear hl hd hold hk
      have C36 := Lib.hid c36
      clear c36
      go_simp
      exact ⟨_, rfl, row_in n36 s36 C36.out z38, hR.next (by decide), KeptS.refl _ _⟩
    · intro a wr k hk hl hR hd hold
      obtain ⟨b39, i39, d39, n39, s39, y39, c39, l39, u39⟩ : AtIn _ 0 3 (a.tmps.getD 39 undef) wr := hd ⟨12, .data⟩ (by simp) rfl
      refine wpOp_at _ rfl rfl ?_
      have f39 := getD_form d39
      clear hl hd hold hk
      go_simp
      exact ⟨_, rfl, ⟨_, rfl, l39, u39⟩, hR.next (by decide), KeptS.refl _ _⟩
    · intro a wr k hk hl hR hd hold
      obtain ⟨b35, d35, n35, s35, c35⟩ : RowNum _ 4 (a.tmps.getD 35 undef) wr := hd ⟨8, .data⟩ (by simp) rfl
      obtain ⟨x40, d40, l40, u40⟩ : NumIn 0 3 (a.tmps.getD 40 undef) := hd ⟨13, .data⟩ (by simp) rfl
      refine wpOp_at _ rfl rfl ?_
      have f35 := getD_form d35
      have f40 := getD_form d40
      have z40 : 0 ≤ x40 ∧ x40 < 4 := ⟨by omega, by omega⟩
      clear hl hd hold hk
      have C35 := Lib.hid c35
      clear c35
      go_simp
      exact ⟨_, rfl, row_num n35 s35 C35.out z40, hR.next (by decide), KeptS.refl _ _⟩
    · intro a wr k hk hl hR hd hold
      obtain ⟨b41, i41, d41, n41, s41, y41, c41⟩ : AtNum _ (a.tmps.getD 41 undef) wr := hd ⟨14, .data⟩ (by simp) rfl
      refine wpOp_at _ rfl rfl ?_
      have f41 := getD_form d41
      clear hl hd hold hk
      go_simp
      exact ⟨_, rfl, ⟨_, rfl⟩, hR.next (by decide), KeptS.refl _ _⟩
    · intro a wr k hk hl hR hd hold
      have d2 : a.tmps.getD 2 undef = .pointer (some ⟨w.heap.size, 0, none⟩) := hl.rest 2 (not_dst rfl)
      obtain ⟨x27, y27, d27⟩ : IsPair (a.tmps.getD 27 undef) := hd ⟨0, .data⟩ (by simp) rfl
      refine wpOp_at _ rfl rfl ?_
      have f2 := getD_form d2
      have f27 := getD_form d27
      obtain ⟨x0, y0, ⟨t0, t1, -⟩, ⟨e0, e1⟩, f0, f1⟩ := hR.pairs w.heap.size (by simp)
      clear hl hd hold hk
      go_simp
      exact ⟨⟨undef, trivial⟩, hR.put (by decide) hY (b := w.heap.size) (by simp) (by simp) x27 y27, keptS_put2 (b := w.heap.size) (by simp) _ _⟩
    · intro a wr k hk hl hR hd hold
      obtain ⟨x28, d28⟩ : IsNum (a.tmps.getD 28 undef) := hd ⟨1, .data⟩ (by simp) rfl
      refine wpOp_at _ rfl rfl ?_
      have f28 := getD_form d28
      clear hl hd hold hk
      go_simp
      exact ⟨_, rfl, ⟨_, rfl⟩, hR.next (by decide), KeptS.refl _ _⟩
    · intro a wr k hk hl hR hd hold
      obtain ⟨x42, d42⟩ : IsNum (a.tmps.getD 42 undef) := hd ⟨15, .data⟩ (by simp) rfl
      refine wpOp_at _ rfl rfl ?_
      have f42 := getD_form d42
      clear hl hd hold hk
      go_simp
      exact ⟨_, rfl, ⟨_, rfl⟩, hR.next (by decide), KeptS.refl _ _⟩
  ·
    intro a wr k hk0 hl hR hT
    obtain ⟨x3, d3⟩ : IsNum (a.tmps.getD 3 undef) := hT 17 (by decide)
    obtain ⟨x4, d4⟩ : IsNum (a.tmps.getD 4 undef) := hT 18 (by decide)
    obtain ⟨x27, y27, d27⟩ : IsPair (a.tmps.getD 27 undef) := hT 0 (by decide)
    obtain ⟨x28, d28⟩ : IsNum (a.tmps.getD 28 undef) := hT 1 (by decide)
    have d29 : a.tmps.getD 29 undef = .pointer (some ⟨_, 0, none⟩) := hT 2 (by decide)
    obtain ⟨x30, d30, l30, u30⟩ : NumIn 0 39 (a.tmps.getD 30 undef) := hT 3 (by decide)
    obtain ⟨x31, d31, l31, u31⟩ : NumIn 1 40 (a.tmps.getD 31 undef) := hT 4 (by decide)
    have d32 : a.tmps.getD 32 undef = .pointer (some ⟨_, 0, none⟩) := hT 5 (by decide)
    obtain ⟨x33, d33, l33, u33⟩ : NumIn 0 40 (a.tmps.getD 33 undef) := hT 6 (by decide)
    obtain ⟨x34, d34⟩ : IsNum (a.tmps.getD 34 undef) := hT 7 (by decide)
    obtain ⟨b35, d35, -⟩ : RowNum _ 4 (a.tmps.getD 35 undef) wr := hT 8 (by decide)
    obtain ⟨b36, d36, -⟩ : RowIn _ 7 0 3 (a.tmps.getD 36 undef) wr := hT 9 (by decide)
    have d37 : a.tmps.getD 37 undef = .pointer (some ⟨_, 0, none⟩) := hT 10 (by decide)
    obtain ⟨x38, d38, l38, u38⟩ : NumIn 0 6 (a.tmps.getD 38 undef) := hT 11 (by decide)
    obtain ⟨b39, i39, d39, -⟩ : AtIn _ 0 3 (a.tmps.getD 39 undef) wr := hT 12 (by decide)
    obtain ⟨x40, d40, l40, u40⟩ : NumIn 0 3 (a.tmps.getD 40 undef) := hT 13 (by decide)
    obtain ⟨b41, i41, d41, -⟩ : AtNum _ (a.tmps.getD 41 undef) wr := hT 14 (by decide)
    obtain ⟨x42, d42⟩ : IsNum (a.tmps.getD 42 undef) := hT 15 (by decide)
    have ea := Fxr.act_ext a [_, _, _, _, _, _, _, _, _, _, _, _, _, _, _, _, _, _, _, _, _, _, _, _, _, _, _, _, _, _, _, _, _, _, _, _, _, _, _, _, _, _, _] hl.defers (by exact hl.size) ⟨hl.rest 0 (not_dst rfl), hl.rest 1 (not_dst rfl), hl.rest 2 (not_dst rfl), d3, d4, hl.rest 5 (not_dst rfl), hl.rest 6 (not_dst rfl), hl.rest 7 (not_dst rfl), hl.rest 8 (not_dst rfl), hl.rest 9 (not_dst rfl), hl.rest 10 (not_dst rfl), hl.rest 11 (not_dst rfl), hl.rest 12 (not_dst rfl), hl.rest 13 (not_dst rfl), hl.rest 14 (not_dst rfl), hl.rest 15 (not_dst rfl), hl.rest 16 (not_dst rfl), hl.rest 17 (not_dst rfl), hl.rest 18 (not_dst rfl), hl.rest 19 (not_dst rfl), hl.rest 20 (not_dst rfl), hl.rest 21 (not_dst rfl), hl.rest 22 (not_dst rfl), hl.rest 23 (not_dst rfl), hl.rest 24 (not_dst rfl), hl.rest 25 (not_dst rfl), hl.rest 26 (not_dst rfl), d27, d28, d29, d30, d31, d32, d33, d34, d35, d36, d37, d38, d39, d40, d41, d42, trivial⟩
    clear hT hl
    subst ea
    have hK := hR.toKept hK (by simp)
    obtain ⟨xa, ya, -, ⟨e0, e1⟩, -⟩ := hR.pairs w.heap.size (by simp)
    clear hR hx hy hr6 hBS c1 c2
    go_wp2
    (try simp only [Exit.inBlock, Exit.then])
    exact bodyPost_ret (v := .tuple #[.agg #[.int .i64 xa, .int .i64 ya], .int .i64 x3, .int .i64 x4]) (by simp [results, Try.results48, go_sem, e0, e1]) rfl ⟨_, _, _, _, rfl, hK.below hB (Nat.le_refl _)⟩

end Go.Proofs.Ytjbaegbdacpdnaa
