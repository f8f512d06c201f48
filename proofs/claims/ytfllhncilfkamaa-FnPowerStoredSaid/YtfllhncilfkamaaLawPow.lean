/-
  What the law on stored powers needs of the functions, bundled.
-/
import Derived.Test.YtfllhncilfkamaaPower
import Derived.Test.YtfllhncilfkamaaDrawPow
import Derived.Test.YtfllhncilfkamaaLawSpan
namespace Go.Proofs.Ytfllhncilfkamaa
open Go.RowKit

/-- A function returns a number and a Bool and makes blocks of its own alone. -/
abbrev GivesN (P : Program) (f : FuncId) (args : Array Value) (x : Int) (k : Bool) : Prop := ∀ w : World, Calls P f args w fun e w' => e = .returned (.tuple #[.int .i64 x, .bool k]) ∧ Below w.heap.size w w'

theorem pow_pack (W P n : Int) (h : Fx.Fits W P n) : ∃ (x : Int) (k : Bool),
    GivesN Try.prog 47 #[.agg #[.int .i64 W, .int .i64 P], .int .i64 n] x k ∧ GivesN Try.prog 45 #[.agg #[.int .i64 W, .int .i64 P], .int .i64 n] x k ∧
    (0 ≤ x ∧ x ≤ 2 ^ (W + P).toNat - 1) ∧ (n / 2 ^ P.toNat * 2 ^ P.toNat = n → 0 ≤ n / 2 ^ P.toNat → n / 2 ^ P.toNat < W → k = true ∧ x = 2 ^ (n / 2 ^ P.toNat + P).toNat) ∧
    ∃ (y : Int) (m : Bool), GivesN Try.prog 47 #[.agg #[.int .i64 W, .int .i64 P], .int .i64 (n + 1)] y m ∧ (Fx.Fits W P (n + 1) → x ≤ y) := by
  refine ⟨_, _, fun w => powerStored_yes W P n w h, fun w => s_powerStored_yes W P n w h, Fx.powNum_in h, ?_, ?_⟩
  · intro h1 h2 h3
    have hr := Fx.rest_is n P
    obtain ⟨e1, e2⟩ := Fx.pow_whole h (by omega) h2 h3
    exact ⟨e2, e1⟩
  · by_cases hf : Fx.Fits W P (n + 1)
    · exact ⟨_, _, fun w => powerStored_yes W P (n + 1) w hf, fun _ => Fx.powNum_mono h hf⟩
    · exact ⟨_, _, fun w => powerStored_no W P (n + 1) w hf, fun k => absurd k hf⟩

end Go.Proofs.Ytfllhncilfkamaa
