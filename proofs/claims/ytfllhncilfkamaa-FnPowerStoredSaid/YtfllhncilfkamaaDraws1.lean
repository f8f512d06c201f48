/-
  The draws of formats and stored numbers.
-/
import Derived.Test.YtfllhncilfkamaaDrawStored
namespace Go.Proofs.Ytfllhncilfkamaa
open Go.RowKit

/-- What a draw has drawn, formats among it: some values; below nothing has turned. -/
def DrewF (w : World) (e : Ending) (w' : World) : Prop := ∃ W P : Int, e = .returned (.agg #[.int .i64 W, .int .i64 P]) ∧ Below w.heap.size w w'
def DrewFI (w : World) (e : Ending) (w' : World) : Prop := ∃ W P a : Int, e = .returned (.tuple #[.agg #[.int .i64 W, .int .i64 P], .int .i64 a]) ∧ Below w.heap.size w w'
def DrewFII (w : World) (e : Ending) (w' : World) : Prop := ∃ W P a b : Int, e = .returned (.tuple #[.agg #[.int .i64 W, .int .i64 P], .int .i64 a, .int .i64 b]) ∧ Below w.heap.size w w'
def DrewIFF (w : World) (e : Ending) (w' : World) : Prop := ∃ n W P V Q : Int, e = .returned (.tuple #[.int .i64 n, .agg #[.int .i64 W, .int .i64 P], .agg #[.int .i64 V, .int .i64 Q]]) ∧ Below w.heap.size w w'
def DrewPairII (w : World) (B : Nat) (p C : Int) (e : Ending) (w' : World) : Prop :=
  ∃ x y a b : Int, e = .returned (.tuple #[.agg #[.int .i64 x, .int .i64 y], .int .i64 a, .int .i64 b]) ∧ (∃ q, q ≤ p + C ∧ Rd w' B q) ∧ Kept B w w'

theorem Box.opened2 {w w' : World} {b B : Nat} {v u : Value} {T : TypeId} {o : Obj} (hB : w.heap.size + 1 + 1 ≤ B) (hr : Rd w' B 0) (hk : Kept B ((w.alloc (.cells #[v, u] T)).alloc o) w') (ha : Apart w.heap.size B w') (hb : b = w.heap.size) : Box b B v u w' := by
  subst hb
  have hs : w.heap.size < (w.alloc (.cells #[v, u] T)).heap.size := by simp
  have hn : w.heap.size ≠ B := by omega
  have hk := ((Kept.refl B (w.alloc (.cells #[v, u] T))).alloc o).trans hk
  refine ⟨⟨Nat.lt_of_lt_of_le hs hk.size, hn, hr.1, ha⟩, ⟨?_, ?_⟩, ?_, ?_⟩
  · rw [hk.cell hs hn, World.cell?_alloc_at (w := w) _ T _ _ rfl]; rfl
  · rw [hk.cell hs hn, World.cell?_alloc_at (w := w) _ T _ _ rfl]; rfl
  · rw [hk.frozen hs hn]; simp [go_sem]
  · rw [hk.frozen hs hn]; simp [go_sem]

set_option linter.unusedVariables false in
def kindsTwo (S : List Nat) (B : Nat) : Nat → Value → World → Prop
  | 0, v, _ => IsPair v
  | 1, v, _ => IsRd B v
  | 2, v, _ => IsPair v
  | 3, v, _ => IsNum v
  | 4, v, _ => IsRd B v
  | 5, v, _ => IsPair v
  | 6, v, _ => IsNum v
  | 7, v, _ => True
  | 8, v, _ => IsNum v
  | 9, v, _ => IsNum v
  | _, _, _ => True
set_option linter.unusedVariables false in
theorem kindsTwo_keep (S : List Nat) (B : Nat) (j : Nat) (v : Value) (w w' : World) (h : kindsTwo S B j v w) (k : KeptS S w w') : kindsTwo S B j v w' := by
  unfold kindsTwo at *
  split at h <;> first | exact h | exact h.keep k

