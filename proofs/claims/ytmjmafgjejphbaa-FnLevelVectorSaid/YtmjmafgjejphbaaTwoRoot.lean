/-
  The walks of roots of 2.
-/
import Derived.Test.YtmjmafgjejphbaaSpanSqrt
import Derived.Test.YtmjmafgjejphbaaBoxes
import Derived.Test.YtmjmafgjejphbaaMathP
namespace Go.Proofs.Ytmjmafgjejphbaa
open Go.RowKit

set_option maxHeartbeats 400000 in
theorem alone_any (n : Int) (w : World) :
    Calls Try.prog 92 #[.int .i64 n] w fun e w' => e = .returned (.agg #[.int .i64 n, .int .i64 n]) ∧ Below w.heap.size w w' := by
  have hx := bx_one w 0 0 31
  (have hf := hx.2.2; simp only [List.forall_mem_cons, List.not_mem_nil, false_imp_iff, implies_true, and_true, Bx1] at hf; first | have hd := bx_apart4 hx | have hd := bx_apart3 hx | have hd := bx_apart2 hx | have hd := trivial)
  go_enter Try.func92, Try.ntmps92
  go_wp2
  (have h9 := hx.set0 (n) (n); (try simp only [Exit.inBlock, Exit.then]); exact bodyPost_ret (v := .agg #[.int .i64 n, .int .i64 n]) (by first | (simp [results, Try.results92, go_sem]; done) | (have e9 := h9.get0; simp [results, Try.results92, go_sem, e9.1, e9.2])) rfl ⟨rfl, (by first | exact h9.1 | go_grown)⟩)

