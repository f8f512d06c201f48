/-
  Plain laws on spans, second part. No program in sight.
-/
import Derived.Test.YtmjmafgjejphbaaMathS
namespace Fx

theorem mul_narrow {a b c d : Int} (v3 : svalid (mulLo a b c d) (mulHi a b c d)) :
    mulLo a b c d ≤ mulLo a a c d ∧ mulHi a a c d ≤ mulHi a b c d ∧ svalid (mulLo a a c d) (mulHi a a c d) := by
  have h1 := min4_le (a * c) (a * d) (b * c) (b * d)
  have h2 := le_max4 (a * c) (a * d) (b * c) (b * d)
  have k1 : min4 (a * c) (a * d) (b * c) (b * d) ≤ min4 (a * c) (a * d) (a * c) (a * d) := le_min4 ⟨h1.1, h1.2.1, h1.1, h1.2.1⟩
  have k2 : max4 (a * c) (a * d) (a * c) (a * d) ≤ max4 (a * c) (a * d) (b * c) (b * d) := max4_le ⟨h2.1, h2.2.1, h2.1, h2.2.1⟩
  have e1 : mulLo a b c d ≤ mulLo a a c d := by unfold mulLo; omega
  have e2 : mulHi a a c d ≤ mulHi a b c d := by unfold mulHi; omega
  have e3 := mul_lo_hi a a c d
  refine ⟨e1, e2, ?_⟩
  unfold svalid at *
  omega

end Fx
