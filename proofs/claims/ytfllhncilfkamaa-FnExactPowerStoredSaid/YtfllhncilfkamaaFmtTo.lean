/-
  The walks of conversions and fractions.
-/
import Derived.Test.YtfllhncilfkamaaFmt
namespace Go.Proofs.Ytfllhncilfkamaa
open Go.RowKit

set_option maxHeartbeats 400000 in
theorem lawFormat_any (W P : Int) (w : World) : Calls Try.prog 46 #[.agg #[.int .i64 W, .int .i64 P]] w fun e w' => e = .returned (.agg #[.int .i64 W, .int .i64 P]) ∧ Below w.heap.size w w' := by
  go_enter Try.func46, Try.ntmps46
  go_wp2
  (try simp only [Exit.inBlock, Exit.then])
  refine bodyPost_ret (v := .agg #[.int .i64 W, .int .i64 P]) (by simp [results, Try.results46, go_sem]) rfl ⟨rfl, by go_grown⟩

end Go.Proofs.Ytfllhncilfkamaa
