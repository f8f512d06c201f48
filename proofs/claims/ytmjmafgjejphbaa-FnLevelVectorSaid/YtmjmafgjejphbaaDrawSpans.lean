/-
  The draws of spans.
-/
import Derived.Test.YtmjmafgjejphbaaDrawSpan
namespace Go.Proofs.Ytmjmafgjejphbaa
open Go.RowKit

def DrewS (w : World) (e : Ending) (w' : World) : Prop := ∃ a b : Int, e = .returned (.agg #[.int .i64 a, .int .i64 b]) ∧ Below w.heap.size w w'
def DrewSI (w : World) (e : Ending) (w' : World) : Prop := ∃ a b n : Int, e = .returned (.tuple #[.agg #[.int .i64 a, .int .i64 b], .int .i64 n]) ∧ Below w.heap.size w w'
def DrewSS (w : World) (e : Ending) (w' : World) : Prop := ∃ a b c d : Int, e = .returned (.tuple #[.agg #[.int .i64 a, .int .i64 b], .agg #[.int .i64 c, .int .i64 d]]) ∧ Below w.heap.size w w'
theorem Box.opened2 {w w' : World} {b B : Nat} {v u : Value} {T : TypeId} {o : Obj} (hB : w.heap.size + 1 + 1 ≤ B) (hr : Rd w' B 0) (hk : Kept B ((w.alloc (.cells #[v, u] T)).alloc o) w') (ha : Apart w.heap.size B w') (hb : b = w.heap.size) : Box b B v u w' := by
  subst hb
  have hs : w.heap.size < (w.alloc (.cells #[v, u] T)).heap.size := by simp
  have hn : w.heap.size ≠ B := by omega
  have hk := ((Kept.refl B (w.alloc (.cells #[v, u] T))).alloc o).trans hk
  refine ⟨⟨Nat.lt_of_lt_of_le hs hk.size, hn, hr.1, ha⟩, ⟨?_, ?_⟩, ?_, ?_⟩
  · rw [hk.cell hs hn, World.cell?_alloc_at (w := w) _ T _ _ rfl]; rfl
  · rw [hk.cell hs hn, World.cell?_alloc_at (w := w) _ T _ _ rfl]; rfl
  · rw [hk.frozen hs hn]; simp [go_sem]
  · rw [hk.frozen hs hn]; simp [go_sem]

