/-
  The walks of multiples of spans and of spans of fractions.
-/
import Derived.Test.YtfllhncilfkamaaSpan
namespace Go.Proofs.Ytfllhncilfkamaa
open Go.RowKit

theorem times_bounds {a n : Int} (ha : -1073741824 ≤ a ∧ a ≤ 1073741824) (hn : -1000 ≤ n ∧ n ≤ 1000) : -1073741824000 ≤ a * n ∧ a * n ≤ 1073741824000 := by
  have := Fx.mul_bounds' (a := a) (b := n) (A := 1073741824) (B := 1000) ha hn
  omega
theorem times_cases (x y : Int) : ∃ l h : Int, ((y < x ∧ ¬x < y ∧ l = y ∧ h = x) ∨ (¬y < x ∧ x < y ∧ l = x ∧ h = y) ∨ (¬y < x ∧ ¬x < y ∧ l = x ∧ h = x)) ∧ min x y = l ∧ max x y = h :=
  ⟨min x y, max x y, by omega, rfl, rfl⟩

