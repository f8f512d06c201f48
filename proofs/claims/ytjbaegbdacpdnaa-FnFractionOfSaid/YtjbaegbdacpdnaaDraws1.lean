/-
  The draws of formats and stored numbers.
-/
import Derived.Test.YtjbaegbdacpdnaaDrawStored
namespace Go.Proofs.Ytjbaegbdacpdnaa
open Go.RowKit

/-- What a draw has drawn, formats among it: some values; below nothing has turned. -/
def DrewF (w : World) (e : Ending) (w' : World) : Prop := ∃ W P : Int, e = .returned (.agg #[.int .i64 W, .int .i64 P]) ∧ Below w.heap.size w w'
def DrewFI (w : World) (e : Ending) (w' : World) : Prop := ∃ W P a : Int, e = .returned (.tuple #[.agg #[.int .i64 W, .int .i64 P], .int .i64 a]) ∧ Below w.heap.size w w'
def DrewFII (w : World) (e : Ending) (w' : World) : Prop := ∃ W P a b : Int, e = .returned (.tuple #[.agg #[.int .i64 W, .int .i64 P], .int .i64 a, .int .i64 b]) ∧ Below w.heap.size w w'
def DrewIFF (w : World) (e : Ending) (w' : World) : Prop := ∃ n W P V Q : Int, e = .returned (.tuple #[.int .i64 n, .agg #[.int .i64 W, .int .i64 P], .agg #[.int .i64 V, .int .i64 Q]]) ∧ Below w.heap.size w w'
def DrewPairII (w : World) (B : Nat) (p C : Int) (e : Ending) (w' : World) : Prop :=
  ∃ x y a b : Int, e = .returned (.tuple #[.agg #[.int .i64 x, .int .i64 y], .int .i64 a, .int .i64 b]) ∧ (∃ q, q ≤ p + C ∧ Rd w' B q) ∧ Kept B w w'

theorem Box.opened2 {w w' : World} {b B : Nat} {v u : Value} {T : TypeId} {o : Obj} (hB : w.heap.size + 1 + 1 ≤ B) (hr : Rd w' B 0) (hk : Kept B ((w.alloc (.cells #[v, u] T)).alloc o) w') (ha : Apart w.heap.size B w') (hb : b = w.heap.size) : Box b B v u w' := by
  subst hb
  have hs : w.heap.size < (w.alloc (.cells #[v, u] T)).heap.size := by simp
  have hn : w.heap.size ≠ B := by omega
  have hk := ((Kept.refl B (w.alloc (.cells #[v, u] T))).alloc o).trans hk
  refine ⟨⟨Nat.lt_of_lt_of_le hs hk.size, hn, hr.1, ha⟩, ⟨?_, ?_⟩, ?_, ?_⟩
  · rw [hk.cell hs hn, World.cell?_alloc_at (w := w) _ T _ _ rfl]; rfl
  · rw [hk.cell hs hn, World.cell?_alloc_at (w := w) _ T _ _ rfl]; rfl
  · rw [hk.frozen hs hn]; simp [go_sem]
  · rw [hk.frozen hs hn]; simp [go_sem]

set_option linter.unusedVariables false in
def kindsTwo (S : List Nat) (B : Nat) : Nat → Value → World → Prop
  | 0, v, _ => IsPair v
  | 1, v, _ => IsRd B v
  | 2, v, _ => IsPair v
  | 3, v, _ => IsNum v
  | 4, v, _ => IsRd B v
  | 5, v, _ => IsPair v
  | 6, v, _ => IsNum v
  | 7, v, _ => True
  | 8, v, _ => IsNum v
  | 9, v, _ => IsNum v
  | _, _, _ => True
set_option linter.unusedVariables false in
theorem kindsTwo_keep (S : List Nat) (B : Nat) (j : Nat) (v : Value) (w w' : World) (h : kindsTwo S B j v w) (k : KeptS S w w') : kindsTwo S B j v w' := by
  unfold kindsTwo at *
  split at h <;> first | exact h | exact h.keep k

set_option maxHeartbeats 8000000 in
theorem l20Two_any (B : Nat) (p : Int) (w : World) (h : Rd w B p) (hp : p ≤ 300000) :
    Calls Try.prog 89 #[.pointer (some ⟨B, 0, none⟩)] w (DrewPairII w B p 20000) := by
  have hB := h.1
  have hx := Box.made (.int .i64 0) (.int .i64 0) 32 h
  go_enter Try.func89, Try.ntmps89
  go_wp2_with fail
  refine (l20Format_any _ _ _ _ (h.alloc _) (by omega) (by omega)).mono ?_
  rintro e w1 ⟨f1, f2, rfl, ⟨q1, hq1, hr1⟩, hk1⟩
  have hK := (((Kept.refl B w).alloc _).trans hk1).alloc (.cells #[.int .i64 f1, .int .i64 f2] 32)
  have hx := (hx.keep hk1).alloc (.cells #[.int .i64 f1, .int .i64 f2] 32)
  have hy := Box.made (.int .i64 f1) (.int .i64 f2) 32 hr1
  have hr2 := hr1.alloc (.cells #[.int .i64 f1, .int .i64 f2] 32)
  have hs : w.heap.size ≤ w1.heap.size := by have := hk1.size; simp at this; omega
  clear hk1 h hr1
  go_wp2_with fail
  have hY := staysS_true [B, w.heap.size]
  have hBS : B ∈ [B, w.heap.size] := by simp
  refine Fxr.wp_region_typed (kindsTwo [B, w.heap.size] B) (ReadsP [B, w.heap.size] (w1.alloc (.cells #[.int .i64 f1, .int .i64 f2] 32)) B q1 1000 [w.heap.size, w1.heap.size] (fun _ => True)) (KeptS [B, w.heap.size]) (by kernel_rfl) (by kernel_rfl) (by kernel_rfl) rfl (kindsTwo_keep _ _)
    ⟨⟨q1, by omega, hr2⟩, (KeptS.refl _ _).drewN 1, ?_, (Pairs.cons hx (Pairs.cons hy (Pairs.none _ _))).drewN 1, trivial, rfl⟩ ?_ ?_
  · have := hr2.1; have := hx.1.1; simp at *; omega
  · have hB := hBS
    clear hK hx hy hr2 hBS hs
    refine ⟨?_, ?_, ?_, ?_, ?_, ?_, ?_, ?_, ?_, ?_, trivial⟩
    · intro a wr k hk hl hR hd hold
      have d5 : a.tmps.getD 5 undef = .pointer (some ⟨w1.heap.size, 0, none⟩) := hl.rest 5 (not_dst rfl)
      refine wpOp_at _ rfl rfl ?_
      have f5 := getD_form d5
      obtain ⟨x0, y0, ⟨t0, t1, -⟩, ⟨e0, e1⟩, f0, f1⟩ := hR.pairs w1.heap.size (by simp)
      clear hl hd hold hk
      go_simp
      exact ⟨_, rfl, ⟨_, _, rfl⟩, hR.next (by decide), KeptS.refl _ _⟩
    · intro a wr k hk hl hR hd hold
      have d0 : a.tmps.getD 0 undef = .pointer (some ⟨_, 0, none⟩) := hl.rest 0 (not_dst rfl)
      refine wpOp_at _ rfl rfl ?_
      have f0 := getD_form d0
      clear hl hd hold hk
      go_simp
      exact ⟨_, rfl, rfl, hR.next (by decide), KeptS.refl _ _⟩
    · intro a wr k hk hl hR hd hold
      have d5 : a.tmps.getD 5 undef = .pointer (some ⟨w1.heap.size, 0, none⟩) := hl.rest 5 (not_dst rfl)
      refine wpOp_at _ rfl rfl ?_
      have f5 := getD_form d5
      obtain ⟨x0, y0, ⟨t0, t1, -⟩, ⟨e0, e1⟩, f0, f1⟩ := hR.pairs w1.heap.size (by simp)
      clear hl hd hold hk
      go_simp
      exact ⟨_, rfl, ⟨_, _, rfl⟩, hR.next (by decide), KeptS.refl _ _⟩
    · intro a wr k hk hl hR hd hold
      have d9 : a.tmps.getD 9 undef = .pointer (some ⟨_, 0, none⟩) := hd ⟨1, .data⟩ (by simp) rfl
      obtain ⟨x10, y10, d10⟩ : IsPair (a.tmps.getD 10 undef) := hd ⟨2, .data⟩ (by simp) rfl
      refine wpOp_at _ rfl rfl ?_
      have f9 := getD_form d9
      have f10 := getD_form d10
      obtain ⟨q0, hq0, hr0⟩ := hR.reader
      have hk0 : k < 10 := hk
      clear hl hd hold hk
      go_simp
      refine (l20Stored_any _ _ _ _ _ _ hr0 (by omega) (by omega)).mono ?_
      rintro e w1 ⟨x, rfl, ⟨q1, hq1, hr1⟩, hk1⟩
      exact ⟨_, rfl, ⟨x, rfl⟩, hR.gone hY hB (by omega) hr1 hk1, hk1.toS hB⟩
    · intro a wr k hk hl hR hd hold
      have d0 : a.tmps.getD 0 undef = .pointer (some ⟨_, 0, none⟩) := hl.rest 0 (not_dst rfl)
      refine wpOp_at _ rfl rfl ?_
      have f0 := getD_form d0
      clear hl hd hold hk
      go_simp
      exact ⟨_, rfl, rfl, hR.next (by decide), KeptS.refl _ _⟩
    · intro a wr k hk hl hR hd hold
      have d5 : a.tmps.getD 5 undef = .pointer (some ⟨w1.heap.size, 0, none⟩) := hl.rest 5 (not_dst rfl)
      refine wpOp_at _ rfl rfl ?_
      have f5 := getD_form d5
      obtain ⟨x0, y0, ⟨t0, t1, -⟩, ⟨e0, e1⟩, f0, f1⟩ := hR.pairs w1.heap.size (by simp)
      clear hl hd hold hk
      go_simp
      exact ⟨_, rfl, ⟨_, _, rfl⟩, hR.next (by decide), KeptS.refl _ _⟩
    · intro a wr k hk hl hR hd hold
      have d12 : a.tmps.getD 12 undef = .pointer (some ⟨_, 0, none⟩) := hd ⟨4, .data⟩ (by simp) rfl
      obtain ⟨x13, y13, d13⟩ : IsPair (a.tmps.getD 13 undef) := hd ⟨5, .data⟩ (by simp) rfl
      refine wpOp_at _ rfl rfl ?_
      have f12 := getD_form d12
      have f13 := getD_form d13
      obtain ⟨q0, hq0, hr0⟩ := hR.reader
      have hk0 : k < 10 := hk
      clear hl hd hold hk
      go_simp
      refine (l20Stored_any _ _ _ _ _ _ hr0 (by omega) (by omega)).mono ?_
      rintro e w1 ⟨x, rfl, ⟨q1, hq1, hr1⟩, hk1⟩
      exact ⟨_, rfl, ⟨x, rfl⟩, hR.gone hY hB (by omega) hr1 hk1, hk1.toS hB⟩
    · intro a wr k hk hl hR hd hold
      have d2 : a.tmps.getD 2 undef = .pointer (some ⟨w.heap.size, 0, none⟩) := hl.rest 2 (not_dst rfl)
      obtain ⟨x8, y8, d8⟩ : IsPair (a.tmps.getD 8 undef) := hd ⟨0, .data⟩ (by simp) rfl
      refine wpOp_at _ rfl rfl ?_
      have f2 := getD_form d2
      have f8 := getD_form d8
      obtain ⟨x0, y0, ⟨t0, t1, -⟩, ⟨e0, e1⟩, f0, f1⟩ := hR.pairs w.heap.size (by simp)
      clear hl hd hold hk
      go_simp
      exact ⟨⟨undef, trivial⟩, hR.put (by decide) hY (b := w.heap.size) (by simp) (by simp) x8 y8, keptS_put2 (b := w.heap.size) (by simp) _ _⟩
    · intro a wr k hk hl hR hd hold
      obtain ⟨x11, d11⟩ : IsNum (a.tmps.getD 11 undef) := hd ⟨3, .data⟩ (by simp) rfl
      refine wpOp_at _ rfl rfl ?_
      have f11 := getD_form d11
      clear hl hd hold hk
      go_simp
      exact ⟨_, rfl, ⟨_, rfl⟩, hR.next (by decide), KeptS.refl _ _⟩
    · intro a wr k hk hl hR hd hold
      obtain ⟨x14, d14⟩ : IsNum (a.tmps.getD 14 undef) := hd ⟨6, .data⟩ (by simp) rfl
      refine wpOp_at _ rfl rfl ?_
      have f14 := getD_form d14
      clear hl hd hold hk
      go_simp
      exact ⟨_, rfl, ⟨_, rfl⟩, hR.next (by decide), KeptS.refl _ _⟩
  ·
    intro a wr k hk0 hl hR hT
    obtain ⟨x3, d3⟩ : IsNum (a.tmps.getD 3 undef) := hT 8 (by decide)
    obtain ⟨x4, d4⟩ : IsNum (a.tmps.getD 4 undef) := hT 9 (by decide)
    obtain ⟨x8, y8, d8⟩ : IsPair (a.tmps.getD 8 undef) := hT 0 (by decide)
    have d9 : a.tmps.getD 9 undef = .pointer (some ⟨_, 0, none⟩) := hT 1 (by decide)
    obtain ⟨x10, y10, d10⟩ : IsPair (a.tmps.getD 10 undef) := hT 2 (by decide)
    obtain ⟨x11, d11⟩ : IsNum (a.tmps.getD 11 undef) := hT 3 (by decide)
    have d12 : a.tmps.getD 12 undef = .pointer (some ⟨_, 0, none⟩) := hT 4 (by decide)
    obtain ⟨x13, y13, d13⟩ : IsPair (a.tmps.getD 13 undef) := hT 5 (by decide)
    obtain ⟨x14, d14⟩ : IsNum (a.tmps.getD 14 undef) := hT 6 (by decide)
    have ea := Fxr.act_ext a [_, _, _, _, _, _, _, _, _, _, _, _, _, _, _] hl.defers (by exact hl.size) ⟨hl.rest 0 (not_dst rfl), hl.rest 1 (not_dst rfl), hl.rest 2 (not_dst rfl), d3, d4, hl.rest 5 (not_dst rfl), hl.rest 6 (not_dst rfl), hl.rest 7 (not_dst rfl), d8, d9, d10, d11, d12, d13, d14, trivial⟩
    clear hT hl
    subst ea
    have hK := hR.toKept hK (by simp)
    obtain ⟨q3, hq3, hr3⟩ := hR.reader
    obtain ⟨xa, ya, -, ⟨e0, e1⟩, -⟩ := hR.pairs w.heap.size (by simp)
    clear hR hx hy hr2 hBS hs
    have hk1 : k ≤ 10 := hk0
    clear hk0
    go_wp2
    (try simp only [Exit.inBlock, Exit.then])
    exact bodyPost_ret (v := .tuple #[.agg #[.int .i64 xa, .int .i64 ya], .int .i64 x3, .int .i64 x4]) (by simp [results, Try.results89, go_sem, e0, e1]) rfl ⟨_, _, _, _, rfl, ⟨_, by omega, hr3⟩, hK⟩

end Go.Proofs.Ytjbaegbdacpdnaa
