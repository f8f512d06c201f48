/-
  The draws of vectors, second part.
-/
import Derived.Test.YtmjmafgjejphbaaDrawVec
namespace Go.Proofs.Ytmjmafgjejphbaa
open Go.RowKit

set_option linter.unusedVariables false in
def kindsLevelVector (S : List Nat) (B : Nat) : Nat → Value → World → Prop
  | 0, v, _ => IsPair v
  | 1, v, _ => IsRd B v
  | 2, v, _ => NumIn 0 21 v
  | 3, v, _ => IsRd B v
  | 4, v, _ => NumIn 0 11 v
  | 5, v, _ => IsNum v
  | 6, v, _ => IsNum v
  | 7, v, _ => True
  | 8, v, _ => IsNum v
  | _, _, _ => True
set_option linter.unusedVariables false in
theorem kindsLevelVector_keep (S : List Nat) (B : Nat) (j : Nat) (v : Value) (w w' : World) (h : kindsLevelVector S B j v w) (k : KeptS S w w') : kindsLevelVector S B j v w' := by
  unfold kindsLevelVector at *
  split at h <;> first | exact h | exact h.keep k

set_option maxRecDepth 8000 in
set_option maxHeartbeats 4000000 in
theorem drawLevelVector_any (a : Option Addr) (len cap : Nat) (zs : Nat → Int) (w : World) (h : Row8 w w.heap.size a len cap zs) :
    Calls Try.prog 70 #[.slice a len cap] w (DrewSI w) := by
  have H := Lib.hid h
  clear h
  go_enter Try.func70, Try.ntmps70
  go_wp2_with fail
  refine (l20Open_at _ _ _ _ w.heap.size _ (H.out.through ((Below.refl _ _).alloc (Nat.le_refl _) _)) (by simp)).mono ?_
  rintro e w1 ⟨B, hB, rfl, hr, hk, ha⟩
  have hx := Box.opened hB hr hk (ha _ (Nat.le_refl _)) rfl
  have hK := ((Kept.refl B w).alloc _).trans hk
  have hB : w.heap.size ≤ B := by simp at hB; omega
  clear hk ha H
  go_wp2_with fail
  refine (l20Vector_any _ _ _ hr (by omega)).mono ?_
  rintro e w2 ⟨u, v, rfl, ⟨q, hq, hr2⟩, hk2⟩
  have hx := hx.keep hk2
  have hK := hK.trans hk2
  have hK2 := hK
  have hy := Box.made (.int .i64 u) (.int .i64 v) 46 hr2
  have hx := hx.alloc (.cells #[.int .i64 u, .int .i64 v] 46)
  have hK := hK.alloc (.cells #[.int .i64 u, .int .i64 v] 46)
  have hr3 := hr2.alloc (.cells #[.int .i64 u, .int .i64 v] 46)
  clear hk2 hr hr2
  go_wp2_with fail
  generalize w2.alloc (.cells #[.int .i64 u, .int .i64 v] 46) = W at *
  have hB0 := hB
  have hle : w.heap.size ≤ w2.heap.size := hK2.size
  have hY := staysS_true [B, w2.heap.size, w.heap.size]
  have hBS : B ∈ [B, w2.heap.size, w.heap.size] := by simp
  refine Fxr.wp_region_typed (kindsLevelVector [B, w2.heap.size, w.heap.size] B) (ReadsP [B, w2.heap.size, w.heap.size] W B q 1 [w2.heap.size, w.heap.size] (fun _ => True)) (KeptS [B, w2.heap.size, w.heap.size]) (by kernel_rfl) (by kernel_rfl) (by kernel_rfl) rfl (kindsLevelVector_keep _ _)
    ⟨⟨q, by omega, hr3⟩, (KeptS.refl _ _).drewN 1, by have := hr3.1; have := hx.1.1; have := hy.1.1; simp at *; omega, (Pairs.cons hy (Pairs.cons hx (Pairs.none _ _))).drewN 1, trivial, rfl⟩ ?_ ?_
  · have hB := hBS
    clear hK hK2 hx hy hr3 hBS
    refine ⟨?_, ?_, ?_, ?_, ?_, ?_, ?_, ?_, ?_, trivial⟩
    · intro a wr k hk hl hR hd hold
      have d5 : a.tmps.getD 5 undef = .pointer (some ⟨w2.heap.size, 0, none⟩) := hl.rest 5 (not_dst rfl)
      refine wpOp_at _ rfl rfl ?_
      have f5 := getD_form d5
      obtain ⟨x0, y0, ⟨t0, t1, -⟩, ⟨e0, e1⟩, f0, f1⟩ := hR.pairs w2.heap.size (by simp)
      clear hl hd hold hk
      go_simp
      exact ⟨_, rfl, ⟨_, _, rfl⟩, hR.next (by decide), KeptS.refl _ _⟩
    · intro a wr k hk hl hR hd hold
      have d4 : a.tmps.getD 4 undef = .pointer (some ⟨_, 0, none⟩) := hl.rest 4 (not_dst rfl)
      refine wpOp_at _ rfl rfl ?_
      have f4 := getD_form d4
      clear hl hd hold hk
      go_simp
      exact ⟨_, rfl, rfl, hR.next (by decide), KeptS.refl _ _⟩
    · intro a wr k hk hl hR hd hold
      have d11 : a.tmps.getD 11 undef = .pointer (some ⟨_, 0, none⟩) := hd ⟨1, .data⟩ (by simp) rfl
      refine wpOp_at _ rfl rfl ?_
      have f11 := getD_form d11
      obtain ⟨q0, hq0, hr0⟩ := hR.reader
      have hk0 : k < 9 := hk
      clear hl hd hold hk
      go_simp
      refine (pick_any _ _ _ _ hr0 (by omega)).mono ?_
      rintro e w1 ⟨x, rfl, hx, hr1, hk1⟩
      have hx1 := hx (by omega)
      exact ⟨_, rfl, ⟨x, rfl, hx1.1, by omega⟩, hR.gone hY hB (by omega) hr1 hk1, hk1.toS hB⟩
    · intro a wr k hk hl hR hd hold
      have d4 : a.tmps.getD 4 undef = .pointer (some ⟨_, 0, none⟩) := hl.rest 4 (not_dst rfl)
      refine wpOp_at _ rfl rfl ?_
      have f4 := getD_form d4
      clear hl hd hold hk
      go_simp
      exact ⟨_, rfl, rfl, hR.next (by decide), KeptS.refl _ _⟩
    · intro a wr k hk hl hR hd hold
      have d13 : a.tmps.getD 13 undef = .pointer (some ⟨_, 0, none⟩) := hd ⟨3, .data⟩ (by simp) rfl
      refine wpOp_at _ rfl rfl ?_
      have f13 := getD_form d13
      obtain ⟨q0, hq0, hr0⟩ := hR.reader
      have hk0 : k < 9 := hk
      clear hl hd hold hk
      go_simp
      refine (pick_any _ _ _ _ hr0 (by omega)).mono ?_
      rintro e w1 ⟨x, rfl, hx, hr1, hk1⟩
      have hx1 := hx (by omega)
      exact ⟨_, rfl, ⟨x, rfl, hx1.1, by omega⟩, hR.gone hY hB (by omega) hr1 hk1, hk1.toS hB⟩
    · intro a wr k hk hl hR hd hold
      obtain ⟨x14, d14, l14, u14⟩ : NumIn 0 11 (a.tmps.getD 14 undef) := hd ⟨4, .data⟩ (by simp) rfl
      refine wpOp_at _ rfl rfl ?_
      have f14 := getD_form d14
      clear hl hd hold hk
      go_simp
      exact ⟨_, rfl, ⟨_, rfl⟩, hR.next (by decide), KeptS.refl _ _⟩
    · intro a wr k hk hl hR hd hold
      obtain ⟨x12, d12, l12, u12⟩ : NumIn 0 21 (a.tmps.getD 12 undef) := hd ⟨2, .data⟩ (by simp) rfl
      obtain ⟨x15, d15⟩ : IsNum (a.tmps.getD 15 undef) := hd ⟨5, .data⟩ (by simp) rfl
      refine wpOp_at _ rfl rfl ?_
      have f12 := getD_form d12
      have f15 := getD_form d15
      clear hl hd hold hk
      go_simp
      exact ⟨_, rfl, ⟨_, rfl⟩, hR.next (by decide), KeptS.refl _ _⟩
    · intro a wr k hk hl hR hd hold
      have d2 : a.tmps.getD 2 undef = .pointer (some ⟨w.heap.size, 0, none⟩) := hl.rest 2 (not_dst rfl)
      obtain ⟨x10, y10, d10⟩ : IsPair (a.tmps.getD 10 undef) := hd ⟨0, .data⟩ (by simp) rfl
      refine wpOp_at _ rfl rfl ?_
      have f2 := getD_form d2
      have f10 := getD_form d10
      obtain ⟨x0, y0, ⟨t0, t1, -⟩, ⟨e0, e1⟩, f0, f1⟩ := hR.pairs w.heap.size (by simp)
      clear hl hd hold hk
      go_simp
      exact ⟨⟨undef, trivial⟩, hR.put (by decide) hY (b := w.heap.size) (by simp) (by simp) x10 y10, keptS_put2 (b := w.heap.size) (by simp) _ _⟩
    · intro a wr k hk hl hR hd hold
      obtain ⟨x16, d16⟩ : IsNum (a.tmps.getD 16 undef) := hd ⟨6, .data⟩ (by simp) rfl
      refine wpOp_at _ rfl rfl ?_
      have f16 := getD_form d16
      clear hl hd hold hk
      go_simp
      exact ⟨_, rfl, ⟨_, rfl⟩, hR.next (by decide), KeptS.refl _ _⟩
  ·
    intro a wr k hk0 hl hR hT
    obtain ⟨x3, d3⟩ : IsNum (a.tmps.getD 3 undef) := hT 8 (by decide)
    obtain ⟨x10, y10, d10⟩ : IsPair (a.tmps.getD 10 undef) := hT 0 (by decide)
    have d11 : a.tmps.getD 11 undef = .pointer (some ⟨_, 0, none⟩) := hT 1 (by decide)
    obtain ⟨x12, d12, l12, u12⟩ : NumIn 0 21 (a.tmps.getD 12 undef) := hT 2 (by decide)
    have d13 : a.tmps.getD 13 undef = .pointer (some ⟨_, 0, none⟩) := hT 3 (by decide)
    obtain ⟨x14, d14, l14, u14⟩ : NumIn 0 11 (a.tmps.getD 14 undef) := hT 4 (by decide)
    obtain ⟨x15, d15⟩ : IsNum (a.tmps.getD 15 undef) := hT 5 (by decide)
    obtain ⟨x16, d16⟩ : IsNum (a.tmps.getD 16 undef) := hT 6 (by decide)
    have ea := Fxr.act_ext a [_, _, _, _, _, _, _, _, _, _, _, _, _, _, _, _, _] hl.defers (by exact hl.size) ⟨hl.rest 0 (not_dst rfl), hl.rest 1 (not_dst rfl), hl.rest 2 (not_dst rfl), d3, hl.rest 4 (not_dst rfl), hl.rest 5 (not_dst rfl), hl.rest 6 (not_dst rfl), hl.rest 7 (not_dst rfl), hl.rest 8 (not_dst rfl), hl.rest 9 (not_dst rfl), d10, d11, d12, d13, d14, d15, d16, trivial⟩
    clear hT hl
    subst ea
    have hK := hR.toKept hK (by simp; omega)
    obtain ⟨xa, ya, -, ⟨e0, e1⟩, -⟩ := hR.pairs w.heap.size (by simp)
    clear hR hx hy hr3 hBS
    go_wp2
    (try simp only [Exit.inBlock, Exit.then])
    exact bodyPost_ret (v := .tuple #[.agg #[.int .i64 xa, .int .i64 ya], .int .i64 x3]) (by simp [results, Try.results70, go_sem, e0, e1]) rfl ⟨_, _, _, rfl, hK.below hB0 (Nat.le_refl _)⟩

def DrewSII (w : World) (e : Ending) (w' : World) : Prop := ∃ a b n k : Int, e = .returned (.tuple #[.agg #[.int .i64 a, .int .i64 b], .int .i64 n, .int .i64 k]) ∧ Below w.heap.size w w'
set_option linter.unusedVariables false in
def kindsTurnVector (S : List Nat) (B : Nat) : Nat → Value → World → Prop
  | 0, v, _ => IsPair v
  | 1, v, _ => IsRd B v
  | 2, v, _ => NumIn 0 255 v
  | 3, v, _ => NumIn (-128) 127 v
  | 4, v, _ => IsNum v
  | 5, v, _ => IsRd B v
  | 6, v, _ => NumIn 0 255 v
  | 7, v, _ => NumIn (-128) 127 v
  | 8, v, w => RowNum S 5 v w
  | 9, v, w => RowIn S 8 0 4 v w
  | 10, v, _ => IsRd B v
  | 11, v, _ => NumIn 0 7 v
  | 12, v, w => AtIn S 0 4 v w
  | 13, v, _ => NumIn 0 4 v
  | 14, v, w => AtNum S v w
  | 15, v, _ => IsNum v
  | 16, v, _ => IsRd B v
  | 17, v, _ => NumIn 0 21 v
  | 18, v, _ => IsRd B v
  | 19, v, _ => NumIn 0 11 v
  | 20, v, _ => IsNum v
  | 21, v, _ => IsNum v
  | 22, v, _ => True
  | 23, v, _ => IsNum v
  | 24, v, _ => IsNum v
  | _, _, _ => True
set_option linter.unusedVariables false in
theorem kindsTurnVector_keep (S : List Nat) (B : Nat) (j : Nat) (v : Value) (w w' : World) (h : kindsTurnVector S B j v w) (k : KeptS S w w') : kindsTurnVector S B j v w' := by
  unfold kindsTurnVector at *
  split at h <;> first | exact h | exact h.keep k

set_option maxRecDepth 8000 in
set_option maxHeartbeats 4000000 in
theorem drawTurnVector_any (a : Option Addr) (len cap : Nat) (zs : Nat → Int) (w : World) (h : Row8 w w.heap.size a len cap zs) :
    Calls Try.prog 71 #[.slice a len cap] w (DrewSII w) := by
  have H := Lib.hid h
  clear h
  go_enter Try.func71, Try.ntmps71
  go_wp2_with fail
  refine (l20Open_at _ _ _ _ w.heap.size _ (H.out.through ((Below.refl _ _).alloc (Nat.le_refl _) _)) (by simp)).mono ?_
  rintro e w1 ⟨B, hB, rfl, hr, hk, ha⟩
  have hx := Box.opened hB hr hk (ha _ (Nat.le_refl _)) rfl
  have hK := ((Kept.refl B w).alloc _).trans hk
  have hB : w.heap.size ≤ B := by simp at hB; omega
  clear hk ha H
  go_wp2_with fail
  refine (l20Vector_any _ _ _ hr (by omega)).mono ?_
  rintro e w2 ⟨u, v, rfl, ⟨q, hq, hr2⟩, hk2⟩
  have hx := hx.keep hk2
  have hK := hK.trans hk2
  have hK2 := hK
  have hy := Box.made (.int .i64 u) (.int .i64 v) 46 hr2
  have hx := hx.alloc (.cells #[.int .i64 u, .int .i64 v] 46)
  have hK := hK.alloc (.cells #[.int .i64 u, .int .i64 v] 46)
  have hr3 := hr2.alloc (.cells #[.int .i64 u, .int .i64 v] 46)
  clear hk2 hr hr2
  go_wp2_with fail
  generalize w2.alloc (.cells #[.int .i64 u, .int .i64 v] 46) = W at *
  have hB0 := hB
  have hle : w.heap.size ≤ w2.heap.size := hK2.size
  have hY := staysS_true [B, w2.heap.size, w.heap.size]
  have hBS : B ∈ [B, w2.heap.size, w.heap.size] := by simp
  refine Fxr.wp_region_typed (kindsTurnVector [B, w2.heap.size, w.heap.size] B) (ReadsP [B, w2.heap.size, w.heap.size] W B q 1 [w2.heap.size, w.heap.size] (fun _ => True)) (KeptS [B, w2.heap.size, w.heap.size]) (by kernel_rfl) (by kernel_rfl) (by kernel_rfl) rfl (kindsTurnVector_keep _ _)
    ⟨⟨q, by omega, hr3⟩, (KeptS.refl _ _).drewN 1, by have := hr3.1; have := hx.1.1; have := hy.1.1; simp at *; omega, (Pairs.cons hy (Pairs.cons hx (Pairs.none _ _))).drewN 1, trivial, rfl⟩ ?_ ?_
  · have hB := hBS
    clear hK hK2 hx hy hr3 hBS
    refine ⟨?_, ?_, ?_, ?_, ?_, ?_, ?_, ?_, ?_, ?_, ?_, ?_, ?_, ?_, ?_, ?_, ?_, ?_, ?_, ?_, ?_, ?_, ?_, ?_, ?_, trivial⟩
    · intro a wr k hk hl hR hd hold
      have d6 : a.tmps.getD 6 undef = .pointer (some ⟨w2.heap.size, 0, none⟩) := hl.rest 6 (not_dst rfl)
      refine wpOp_at _ rfl rfl ?_
      have f6 := getD_form d6
      obtain ⟨x0, y0, ⟨t0, t1, -⟩, ⟨e0, e1⟩, f0, f1⟩ := hR.pairs w2.heap.size (by simp)
      clear hl hd hold hk
      go_simp
      exact ⟨_, rfl, ⟨_, _, rfl⟩, hR.next (by decide), KeptS.refl _ _⟩
    · intro a wr k hk hl hR hd hold
      have d5 : a.tmps.getD 5 undef = .pointer (some ⟨_, 0, none⟩) := hl.rest 5 (not_dst rfl)
      refine wpOp_at _ rfl rfl ?_
      have f5 := getD_form d5
      clear hl hd hold hk
      go_simp
      exact ⟨_, rfl, rfl, hR.next (by decide), KeptS.refl _ _⟩
    · intro a wr k hk hl hR hd hold
      have d12 : a.tmps.getD 12 undef = .pointer (some ⟨_, 0, none⟩) := hd ⟨1, .data⟩ (by simp) rfl
      refine wpOp_at _ rfl rfl ?_
      have f12 := getD_form d12
      obtain ⟨q0, hq0, hr0⟩ := hR.reader
      have hk0 : k < 25 := hk
      clear hl hd hold hk
      go_simp
      refine (pick_any _ _ _ _ hr0 (by omega)).mono ?_
      rintro e w1 ⟨x, rfl, hx, hr1, hk1⟩
      have hx1 := hx (by omega)
      exact ⟨_, rfl, ⟨x, rfl, hx1.1, by omega⟩, hR.gone hY hB (by omega) hr1 hk1, hk1.toS hB⟩
    · intro a wr k hk hl hR hd hold
      obtain ⟨x13, d13, l13, u13⟩ : NumIn 0 255 (a.tmps.getD 13 undef) := hd ⟨2, .data⟩ (by simp) rfl
      refine wpOp_at _ rfl rfl ?_
      have f13 := getD_form d13
      clear hl hd hold hk
      go_simp
      exact ⟨_, rfl, ⟨_, rfl, by rw [IntWalk.i64_in _ (by omega)]; omega, by rw [IntWalk.i64_in _ (by omega)]; omega⟩, hR.next (by decide), KeptS.refl _ _⟩
    · intro a wr k hk hl hR hd hold
      obtain ⟨x14, d14, l14, u14⟩ : NumIn (-128) 127 (a.tmps.getD 14 undef) := hd ⟨3, .data⟩ (by simp) rfl
      refine wpOp_at _ rfl rfl ?_
      have f14 := getD_form d14
      clear hl hd hold hk
      go_simp
      exact ⟨_, rfl, ⟨_, rfl⟩, hR.next (by decide), KeptS.refl _ _⟩
    · intro a wr k hk hl hR hd hold
      have d5 : a.tmps.getD 5 undef = .pointer (some ⟨_, 0, none⟩) := hl.rest 5 (not_dst rfl)
      refine wpOp_at _ rfl rfl ?_
      have f5 := getD_form d5
      clear hl hd hold hk
      go_simp
      exact ⟨_, rfl, rfl, hR.next (by decide), KeptS.refl _ _⟩
    · intro a wr k hk hl hR hd hold
      have d16 : a.tmps.getD 16 undef = .pointer (some ⟨_, 0, none⟩) := hd ⟨5, .data⟩ (by simp) rfl
      refine wpOp_at _ rfl rfl ?_
      have f16 := getD_form d16
      obtain ⟨q0, hq0, hr0⟩ := hR.reader
      have hk0 : k < 25 := hk
      clear hl hd hold hk
      go_simp
      refine (pick_any _ _ _ _ hr0 (by omega)).mono ?_
      rintro e w1 ⟨x, rfl, hx, hr1, hk1⟩
      have hx1 := hx (by omega)
      exact ⟨_, rfl, ⟨x, rfl, hx1.1, by omega⟩, hR.gone hY hB (by omega) hr1 hk1, hk1.toS hB⟩
    · intro a wr k hk hl hR hd hold
      obtain ⟨x17, d17, l17, u17⟩ : NumIn 0 255 (a.tmps.getD 17 undef) := hd ⟨6, .data⟩ (by simp) rfl
      refine wpOp_at _ rfl rfl ?_
      have f17 := getD_form d17
      clear hl hd hold hk
      go_simp
      exact ⟨_, rfl, ⟨_, rfl, by rw [IntWalk.i64_in _ (by omega)]; omega, by rw [IntWalk.i64_in _ (by omega)]; omega⟩, hR.next (by decide), KeptS.refl _ _⟩
    · intro a wr k hk hl hR hd hold
      obtain ⟨x15, d15⟩ : IsNum (a.tmps.getD 15 undef) := hd ⟨4, .data⟩ (by simp) rfl
      obtain ⟨x18, d18, l18, u18⟩ : NumIn (-128) 127 (a.tmps.getD 18 undef) := hd ⟨7, .data⟩ (by simp) rfl
      refine wpOp_at _ rfl rfl ?_
      have f15 := getD_form d15
      have f18 := getD_form d18
      clear hl hd hold hk
      go_simp
      exact ⟨_, rfl, RowNum.made hR.fresh _ _ 5 rfl rfl, hR.alloc (by decide) hY _, (KeptS.refl _ _).alloc _⟩
    · intro a wr k hk hl hR hd hold
      refine wpOp_at _ rfl rfl ?_
      clear hl hd hold hk
      go_simp
      exact ⟨_, rfl, RowIn.made hR.fresh _ _ 8 0 4 rfl rfl, hR.alloc (by decide) hY _, (KeptS.refl _ _).alloc _⟩
    · intro a wr k hk hl hR hd hold
      have d5 : a.tmps.getD 5 undef = .pointer (some ⟨_, 0, none⟩) := hl.rest 5 (not_dst rfl)
      refine wpOp_at _ rfl rfl ?_
      have f5 := getD_form d5
      clear hl hd hold hk
      go_simp
      exact ⟨_, rfl, rfl, hR.next (by decide), KeptS.refl _ _⟩
    · intro a wr k hk hl hR hd hold
      have d21 : a.tmps.getD 21 undef = .pointer (some ⟨_, 0, none⟩) := hd ⟨10, .data⟩ (by simp) rfl
      refine wpOp_at _ rfl rfl ?_
      have f21 := getD_form d21
      obtain ⟨q0, hq0, hr0⟩ := hR.reader
      have hk0 : k < 25 := hk
      clear hl hd hold hk
      go_simp
      refine (pick_any _ _ _ _ hr0 (by omega)).mono ?_
      rintro e w1 ⟨x, rfl, hx, hr1, hk1⟩
      have hx1 := hx (by omega)
      exact ⟨_, rfl, ⟨x, rfl, hx1.1, by omega⟩, hR.gone hY hB (by omega) hr1 hk1, hk1.toS hB⟩
    · intro a wr k hk hl hR hd hold
      obtain ⟨b20, d20, n20, s20, c20⟩ : RowIn _ 8 0 4 (a.tmps.getD 20 undef) wr := hd ⟨9, .data⟩ (by simp) rfl
      obtain ⟨x22, d22, l22, u22⟩ : NumIn 0 7 (a.tmps.getD 22 undef) := hd ⟨11, .data⟩ (by simp) rfl
      refine wpOp_at _ rfl rfl ?_
      have f20 := getD_form d20
      have f22 := getD_form d22
      have z22 : 0 ≤ x22 ∧ x22 < 8 := ⟨by omega, by omega⟩
      clear hl hd hold hk
      have C20 := Lib.hid c20
      clear c20
      go_simp
      exact ⟨_, rfl, row_in n20 s20 C20.out z22, hR.next (by decide), KeptS.refl _ _⟩
    · intro a wr k hk hl hR hd hold
      obtain ⟨b23, i23, d23, n23, s23, y23, c23, l23, u23⟩ : AtIn _ 0 4 (a.tmps.getD 23 undef) wr := hd ⟨12, .data⟩ (by simp) rfl
      refine wpOp_at _ rfl rfl ?_
      have f23 := getD_form d23
      clear hl hd hold hk
      go_simp
      exact ⟨_, rfl, ⟨_, rfl, l23, u23⟩, hR.next (by decide), KeptS.refl _ _⟩
    · intro a wr k hk hl hR hd hold
      obtain ⟨b19, d19, n19, s19, c19⟩ : RowNum _ 5 (a.tmps.getD 19 undef) wr := hd ⟨8, .data⟩ (by simp) rfl
      obtain ⟨x24, d24, l24, u24⟩ : NumIn 0 4 (a.tmps.getD 24 undef) := hd ⟨13, .data⟩ (by simp) rfl
      refine wpOp_at _ rfl rfl ?_
      have f19 := getD_form d19
      have f24 := getD_form d24
      have z24 : 0 ≤ x24 ∧ x24 < 5 := ⟨by omega, by omega⟩
      clear hl hd hold hk
      have C19 := Lib.hid c19
      clear c19
      go_simp
      exact ⟨_, rfl, row_num n19 s19 C19.out z24, hR.next (by decide), KeptS.refl _ _⟩
    · intro a wr k hk hl hR hd hold
      obtain ⟨b25, i25, d25, n25, s25, y25, c25⟩ : AtNum _ (a.tmps.getD 25 undef) wr := hd ⟨14, .data⟩ (by simp) rfl
      refine wpOp_at _ rfl rfl ?_
      have f25 := getD_form d25
      clear hl hd hold hk
      go_simp
      exact ⟨_, rfl, ⟨_, rfl⟩, hR.next (by decide), KeptS.refl _ _⟩
    · intro a wr k hk hl hR hd hold
      have d5 : a.tmps.getD 5 undef = .pointer (some ⟨_, 0, none⟩) := hl.rest 5 (not_dst rfl)
      refine wpOp_at _ rfl rfl ?_
      have f5 := getD_form d5
      clear hl hd hold hk
      go_simp
      exact ⟨_, rfl, rfl, hR.next (by decide), KeptS.refl _ _⟩
    · intro a wr k hk hl hR hd hold
      have d27 : a.tmps.getD 27 undef = .pointer (some ⟨_, 0, none⟩) := hd ⟨16, .data⟩ (by simp) rfl
      refine wpOp_at _ rfl rfl ?_
      have f27 := getD_form d27
      obtain ⟨q0, hq0, hr0⟩ := hR.reader
      have hk0 : k < 25 := hk
      clear hl hd hold hk
      go_simp
      refine (pick_any _ _ _ _ hr0 (by omega)).mono ?_
      rintro e w1 ⟨x, rfl, hx, hr1, hk1⟩
      have hx1 := hx (by omega)
      exact ⟨_, rfl, ⟨x, rfl, hx1.1, by omega⟩, hR.gone hY hB (by omega) hr1 hk1, hk1.toS hB⟩
    · intro a wr k hk hl hR hd hold
      have d5 : a.tmps.getD 5 undef = .pointer (some ⟨_, 0, none⟩) := hl.rest 5 (not_dst rfl)
      refine wpOp_at _ rfl rfl ?_
      have f5 := getD_form d5
      clear hl hd hold hk
      go_simp
      exact ⟨_, rfl, rfl, hR.next (by decide), KeptS.refl _ _⟩
    · intro a wr k hk hl hR hd hold
      have d29 : a.tmps.getD 29 undef = .pointer (some ⟨_, 0, none⟩) := hd ⟨18, .data⟩ (by simp) rfl
      refine wpOp_at _ rfl rfl ?_
      have f29 := getD_form d29
      obtain ⟨q0, hq0, hr0⟩ := hR.reader
      have hk0 : k < 25 := hk
      clear hl hd hold hk
      go_simp
      refine (pick_any _ _ _ _ hr0 (by omega)).mono ?_
      rintro e w1 ⟨x, rfl, hx, hr1, hk1⟩
      have hx1 := hx (by omega)
      exact ⟨_, rfl, ⟨x, rfl, hx1.1, by omega⟩, hR.gone hY hB (by omega) hr1 hk1, hk1.toS hB⟩
    · intro a wr k hk hl hR hd hold
      obtain ⟨x30, d30, l30, u30⟩ : NumIn 0 11 (a.tmps.getD 30 undef) := hd ⟨19, .data⟩ (by simp) rfl
      refine wpOp_at _ rfl rfl ?_
      have f30 := getD_form d30
      clear hl hd hold hk
      go_simp
      exact ⟨_, rfl, ⟨_, rfl⟩, hR.next (by decide), KeptS.refl _ _⟩
    · intro a wr k hk hl hR hd hold
      obtain ⟨x28, d28, l28, u28⟩ : NumIn 0 21 (a.tmps.getD 28 undef) := hd ⟨17, .data⟩ (by simp) rfl
      obtain ⟨x31, d31⟩ : IsNum (a.tmps.getD 31 undef) := hd ⟨20, .data⟩ (by simp) rfl
      refine wpOp_at _ rfl rfl ?_
      have f28 := getD_form d28
      have f31 := getD_form d31
      clear hl hd hold hk
      go_simp
      exact ⟨_, rfl, ⟨_, rfl⟩, hR.next (by decide), KeptS.refl _ _⟩
    · intro a wr k hk hl hR hd hold
      have d2 : a.tmps.getD 2 undef = .pointer (some ⟨w.heap.size, 0, none⟩) := hl.rest 2 (not_dst rfl)
      obtain ⟨x11, y11, d11⟩ : IsPair (a.tmps.getD 11 undef) := hd ⟨0, .data⟩ (by simp) rfl
      refine wpOp_at _ rfl rfl ?_
      have f2 := getD_form d2
      have f11 := getD_form d11
      obtain ⟨x0, y0, ⟨t0, t1, -⟩, ⟨e0, e1⟩, f0, f1⟩ := hR.pairs w.heap.size (by simp)
      clear hl hd hold hk
      go_simp
      exact ⟨⟨undef, trivial⟩, hR.put (by decide) hY (b := w.heap.size) (by simp) (by simp) x11 y11, keptS_put2 (b := w.heap.size) (by simp) _ _⟩
    · intro a wr k hk hl hR hd hold
      obtain ⟨x26, d26⟩ : IsNum (a.tmps.getD 26 undef) := hd ⟨15, .data⟩ (by simp) rfl
      refine wpOp_at _ rfl rfl ?_
      have f26 := getD_form d26
      clear hl hd hold hk
      go_simp
      exact ⟨_, rfl, ⟨_, rfl⟩, hR.next (by decide), KeptS.refl _ _⟩
    · intro a wr k hk hl hR hd hold
      obtain ⟨x32, d32⟩ : IsNum (a.tmps.getD 32 undef) := hd ⟨21, .data⟩ (by simp) rfl
      refine wpOp_at _ rfl rfl ?_
      have f32 := getD_form d32
      clear hl hd hold hk
      go_simp
      exact ⟨_, rfl, ⟨_, rfl⟩, hR.next (by decide), KeptS.refl _ _⟩
  ·
    intro a wr k hk0 hl hR hT
    obtain ⟨x3, d3⟩ : IsNum (a.tmps.getD 3 undef) := hT 23 (by decide)
    obtain ⟨x4, d4⟩ : IsNum (a.tmps.getD 4 undef) := hT 24 (by decide)
    obtain ⟨x11, y11, d11⟩ : IsPair (a.tmps.getD 11 undef) := hT 0 (by decide)
    have d12 : a.tmps.getD 12 undef = .pointer (some ⟨_, 0, none⟩) := hT 1 (by decide)
    obtain ⟨x13, d13, l13, u13⟩ : NumIn 0 255 (a.tmps.getD 13 undef) := hT 2 (by decide)
    obtain ⟨x14, d14, l14, u14⟩ : NumIn (-128) 127 (a.tmps.getD 14 undef) := hT 3 (by decide)
    obtain ⟨x15, d15⟩ : IsNum (a.tmps.getD 15 undef) := hT 4 (by decide)
    have d16 : a.tmps.getD 16 undef = .pointer (some ⟨_, 0, none⟩) := hT 5 (by decide)
    obtain ⟨x17, d17, l17, u17⟩ : NumIn 0 255 (a.tmps.getD 17 undef) := hT 6 (by decide)
    obtain ⟨x18, d18, l18, u18⟩ : NumIn (-128) 127 (a.tmps.getD 18 undef) := hT 7 (by decide)
    obtain ⟨b19, d19, -⟩ : RowNum _ 5 (a.tmps.getD 19 undef) wr := hT 8 (by decide)
    obtain ⟨b20, d20, -⟩ : RowIn _ 8 0 4 (a.tmps.getD 20 undef) wr := hT 9 (by decide)
    have d21 : a.tmps.getD 21 undef = .pointer (some ⟨_, 0, none⟩) := hT 10 (by decide)
    obtain ⟨x22, d22, l22, u22⟩ : NumIn 0 7 (a.tmps.getD 22 undef) := hT 11 (by decide)
    obtain ⟨b23, i23, d23, -⟩ : AtIn _ 0 4 (a.tmps.getD 23 undef) wr := hT 12 (by decide)
    obtain ⟨x24, d24, l24, u24⟩ : NumIn 0 4 (a.tmps.getD 24 undef) := hT 13 (by decide)
    obtain ⟨b25, i25, d25, -⟩ : AtNum _ (a.tmps.getD 25 undef) wr := hT 14 (by decide)
    obtain ⟨x26, d26⟩ : IsNum (a.tmps.getD 26 undef) := hT 15 (by decide)
    have d27 : a.tmps.getD 27 undef = .pointer (some ⟨_, 0, none⟩) := hT 16 (by decide)
    obtain ⟨x28, d28, l28, u28⟩ : NumIn 0 21 (a.tmps.getD 28 undef) := hT 17 (by decide)
    have d29 : a.tmps.getD 29 undef = .pointer (some ⟨_, 0, none⟩) := hT 18 (by decide)
    obtain ⟨x30, d30, l30, u30⟩ : NumIn 0 11 (a.tmps.getD 30 undef) := hT 19 (by decide)
    obtain ⟨x31, d31⟩ : IsNum (a.tmps.getD 31 undef) := hT 20 (by decide)
    obtain ⟨x32, d32⟩ : IsNum (a.tmps.getD 32 undef) := hT 21 (by decide)
    have ea := Fxr.act_ext a [_, _, _, _, _, _, _, _, _, _, _, _, _, _, _, _, _, _, _, _, _, _, _, _, _, _, _, _, _, _, _, _, _] hl.defers (by exact hl.size) ⟨hl.rest 0 (not_dst rfl), hl.rest 1 (not_dst rfl), hl.rest 2 (not_dst rfl), d3, d4, hl.rest 5 (not_dst rfl), hl.rest 6 (not_dst rfl), hl.rest 7 (not_dst rfl), hl.rest 8 (not_dst rfl), hl.rest 9 (not_dst rfl), hl.rest 10 (not_dst rfl), d11, d12, d13, d14, d15, d16, d17, d18, d19, d20, d21, d22, d23, d24, d25, d26, d27, d28, d29, d30, d31, d32, trivial⟩
    clear hT hl
    subst ea
    have hK := hR.toKept hK (by simp; omega)
    obtain ⟨xa, ya, -, ⟨e0, e1⟩, -⟩ := hR.pairs w.heap.size (by simp)
    clear hR hx hy hr3 hBS
    go_wp2
    (try simp only [Exit.inBlock, Exit.then])
    exact bodyPost_ret (v := .tuple #[.agg #[.int .i64 xa, .int .i64 ya], .int .i64 x3, .int .i64 x4]) (by simp [results, Try.results71, go_sem, e0, e1]) rfl ⟨_, _, _, _, rfl, hK.below hB0 (Nat.le_refl _)⟩

end Go.Proofs.Ytmjmafgjejphbaa
