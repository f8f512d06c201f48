/-
  What the exact laws on spans need: conversions and comparisons.
-/
import Derived.Test.YtmjmafgjejphbaaTwoRoot
import Derived.Test.YtmjmafgjejphbaaHead
namespace Go.Proofs.Ytmjmafgjejphbaa
open Go.RowKit

set_option maxHeartbeats 400000 in
theorem eqSpan_same (a b : Int) (w : World) : Calls Try.prog 35 #[.agg #[.int .i64 a, .int .i64 b], .agg #[.int .i64 a, .int .i64 b]] w fun e w' => e = .returned (.bool true) ∧ Below w.heap.size w w' := by
  have hx := hold_four w (.int .i64 a) (.int .i64 b) (.int .i64 a) (.int .i64 b) 31 31
  (have hf := hx.2; simp only [List.forall_mem_cons, List.not_mem_nil, false_imp_iff, implies_true, and_true] at hf)
  go_enter Try.func35, Try.ntmps35
  go_wp2
  go_ret
  exact ⟨rfl, hx.1⟩

end Go.Proofs.Ytmjmafgjejphbaa
