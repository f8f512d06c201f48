/-
  What the laws on roots and powers of 2 need of the functions, bundled.
-/
import Derived.Test.YtfllhncilfkamaaLawRoots
import Derived.Test.YtfllhncilfkamaaSpanMeet
import Derived.Deep.DeepCutAuto
namespace Go.Proofs.Ytfllhncilfkamaa
open Go.RowKit

/-- A function returns a struct of two numbers and makes blocks of its own alone. -/
abbrev Gives2 (P : Program) (f : FuncId) (args : Array Value) (x y : Int) : Prop := ∀ w : World, Calls P f args w fun e w' => e = .returned (.agg #[.int .i64 x, .int .i64 y]) ∧ Below w.heap.size w w'

theorem root_pack (k : Int) : ∃ X Y : Int, Gives2 Try.prog 38 #[.int .i64 k] X Y ∧ Gives2 Try.prog 37 #[.int .i64 k] X Y ∧
    (¬ (0 ≤ k ∧ k ≤ 16) → X = 0 ∧ Y = 0) ∧ (k = 0 → X = 536870912 ∧ Y = 536870912) ∧
    (1 ≤ k ∧ k ≤ 16 → ∃ p q : Int, Gives2 Try.prog 38 #[.int .i64 (k - 1)] p q ∧ (268435456 < X ∧ X ≤ Y ∧ Y ≤ 536870912) ∧ (0 ≤ p ∧ p ≤ 536870912 ∧ 0 ≤ q ∧ q ≤ 536870912) ∧
      X * X ≤ p * 268435456 ∧ q * 268435456 ≤ Y * Y ∧ Y < p ∧ Y - X ≤ 3) := by
  refine ⟨_, _, fun w => twoRoot_any k w, fun w => s_twoRoot_any k w, ?_, ?_, ?_⟩
  · intro h
    have e : Fx.twoRoot k = (0, 0) := if_neg h
    rw [e]; exact ⟨rfl, rfl⟩
  · rintro rfl
    exact ⟨rfl, rfl⟩
  · intro h
    refine ⟨_, _, fun w => twoRoot_any (k - 1) w, ?_⟩
    have e1 : Fx.twoRoot k = Fx.root k.toNat := if_pos (by omega)
    have e2 : Fx.twoRoot (k - 1) = Fx.root (k - 1).toNat := if_pos (by omega)
    rw [e1, e2, Fx.root_is _ (by omega), Fx.root_is _ (by omega)]
    obtain ⟨j, rfl⟩ : ∃ j : Nat, k = j + 1 := ⟨(k - 1).toNat, by omega⟩
    have t1 : ((j : Int) + 1).toNat = j + 1 := by omega
    have t2 : ((j : Int) + 1 - 1).toNat = j := by omega
    rw [t1, t2]
    obtain ⟨s1, s2⟩ := Fx.root_step j (by omega)
    obtain ⟨r1, r2, r3, r4⟩ := Fx.root_in (j + 1) (by omega)
    obtain ⟨q1, q2, q3, q4⟩ := Fx.root_in j (by omega)
    have hlt : Fx.rootH (j + 1) < Fx.rootL j := by
      have h : (List.range 16).all (fun k => decide (Fx.rootH (k + 1) < Fx.rootL k)) = true := by decide +kernel
      rw [List.all_eq_true] at h
      simpa using h j (List.mem_range.2 (by omega))
    rw [Nat.pow_two] at s1 s2
    generalize Fx.rootL (j + 1) = L1 at *
    generalize Fx.rootH (j + 1) = H1 at *
    generalize Fx.rootL j = L0 at *
    generalize Fx.rootH j = H0 at *
    have s1' := Int.ofNat_le.2 s1
    have s2' := Int.ofNat_le.2 s2
    rw [Int.natCast_mul, Int.natCast_mul] at s1' s2'
    refine ⟨⟨by simp only; omega, by simp only; omega, by simp only; omega⟩, ⟨by simp only; omega, by simp only; omega, by simp only; omega, by simp only; omega⟩, ?_, ?_, by simp only; omega, by simp only; omega⟩
    · exact s1'
    · exact s2'

theorem two_pack (x : Int) : ∃ X Y : Int, Gives2 Try.prog 43 #[.int .i64 x] X Y ∧ Gives2 Try.prog 42 #[.int .i64 x] X Y ∧
    (¬ (0 ≤ x ∧ x ≤ 65535) → X = 0 ∧ Y = 0) ∧ (x = 0 → X = 268435456 ∧ Y = 268435456) ∧
    (1 ≤ x ∧ x ≤ 65535 → (Fx.svalid X Y ∧ Y - X ≤ 200 ∧ Y ≤ 536870912) ∧
      (∃ p q r s : Int, Gives2 Try.prog 43 #[.int .i64 (65536 - x)] p q ∧ GivesS Try.prog 21 #[.agg #[.int .i64 X, .int .i64 Y], .agg #[.int .i64 p, .int .i64 q]] r s true ∧ Fx.svalid r s ∧ r ≤ 536870912 ∧ 536870912 ≤ s) ∧
      ∃ p q : Int, Gives2 Try.prog 43 #[.int .i64 (x + 1)] p q ∧ (x ≠ 65535 → Y < p)) ∧
    (0 ≤ x ∧ x ≤ 65535 → ∃ p q r s t u v z : Int, Gives2 Try.prog 43 #[.int .i64 ((65535 - x) / 2)] p q ∧ GivesS Try.prog 21 #[.agg #[.int .i64 X, .int .i64 Y], .agg #[.int .i64 p, .int .i64 q]] r s true ∧
      Gives2 Try.prog 43 #[.int .i64 (x + (65535 - x) / 2)] t u ∧ GivesS Try.prog 24 #[.agg #[.int .i64 r, .int .i64 s], .agg #[.int .i64 t, .int .i64 u]] v z true) := by
  refine ⟨_, _, fun w => twoPower_any x w, fun w => s_twoPower_any x w, ?_, ?_, ?_, ?_⟩
  · intro h
    have e : Fx.twoPower x = (0, 0) := if_neg h
    rw [e]; exact ⟨rfl, rfl⟩
  · rintro rfl
    rw [Fx.twoPower_zero]; exact ⟨rfl, rfl⟩
  · intro h
    obtain ⟨g1, g2, g3, g4⟩ := Fx.twoPower_in x (by omega) (by omega)
    refine ⟨⟨by unfold Fx.svalid; omega, g4, g3⟩, ?_, ?_⟩
    · obtain ⟨r, s, e, v, h1, h2⟩ := Fx.twoPower_rest x h.1 h.2
      have h3 := fun w => spanMul_any (Fx.twoPower x).1 (Fx.twoPower x).2 (Fx.twoPower (65536 - x)).1 (Fx.twoPower (65536 - x)).2 w
      rw [e] at h3
      exact ⟨_, _, r, s, fun w => twoPower_any (65536 - x) w, h3, v, h1, h2⟩
    · refine ⟨_, _, fun w => twoPower_any (x + 1) w, fun hx => Fx.twoPower_next x (x + 1) (by omega) (by omega) (by omega)⟩
  · intro h
    obtain ⟨r, s, e, v, m, k, e2⟩ := Fx.twoPower_sum x ((65535 - x) / 2) (by omega) (by omega) (by omega)
    have h3 := fun w => spanMul_any (Fx.twoPower x).1 (Fx.twoPower x).2 (Fx.twoPower ((65535 - x) / 2)).1 (Fx.twoPower ((65535 - x) / 2)).2 w
    rw [e] at h3
    have h4 := fun w => spanMeet_any r s (Fx.twoPower (x + (65535 - x) / 2)).1 (Fx.twoPower (x + (65535 - x) / 2)).2 w
    rw [e2] at h4
    exact ⟨_, _, r, s, _, _, m, k, fun w => twoPower_any _ w, h3, fun w => twoPower_any _ w, h4⟩

end Go.Proofs.Ytfllhncilfkamaa
