/-
  What the laws on spans need of the functions, second part.
-/
import Derived.Test.YtkogpcabemklhaaLawSpan
namespace Go.Proofs.Ytkogpcabemklhaa
open Go.RowKit

/-- A function returns a struct of two numbers and makes blocks of its own alone. -/
abbrev GivesA (P : Program) (f : FuncId) (args : Array Value) (x y : Int) : Prop := ∀ w : World, Calls P f args w fun e w' => e = .returned (.agg #[.int .i64 x, .int .i64 y]) ∧ Below w.heap.size w w'

theorem neg_pack (a b : Int) (v : Fx.svalid a b) : ∃ X Y : Int,
    GivesA Try.prog 14 #[.agg #[.int .i64 a, .int .i64 b]] X Y ∧
    GivesA Try.prog 15 #[.agg #[.int .i64 a, .int .i64 b]] X Y ∧
    GivesA Try.prog 14 #[.agg #[.int .i64 X, .int .i64 Y]] a b ∧ Fx.svalid X Y ∧ Y - X = b - a := by
  have e : Fx.spanNeg a b = (-b, -a) := if_pos v
  have e2 : Fx.spanNeg (-b) (-a) = (a, b) := by
    unfold Fx.spanNeg
    rw [if_pos (Fx.svalid_neg v), Int.neg_neg, Int.neg_neg]
  have h1 := fun w => spanNeg_any a b w
  have h2 := fun w => s_spanNeg_any a b w
  have h3 := fun w => spanNeg_any (-b) (-a) w
  rw [e] at h1 h2
  rw [e2] at h3
  exact ⟨-b, -a, h1, h2, h3, Fx.svalid_neg v, by omega⟩
theorem neg_none (a b : Int) (v : ¬ Fx.svalid a b) :
    GivesA Try.prog 14 #[.agg #[.int .i64 a, .int .i64 b]] 0 0 ∧
    GivesA Try.prog 15 #[.agg #[.int .i64 a, .int .i64 b]] 0 0 := by
  have e : Fx.spanNeg a b = (0, 0) := if_neg v
  have h1 := fun w => spanNeg_any a b w
  have h2 := fun w => s_spanNeg_any a b w
  rw [e] at h1 h2
  exact ⟨h1, h2⟩

end Go.Proofs.Ytkogpcabemklhaa
