/-
  What the laws on arc tangents, the circle number, growth and starts need of the functions, bundled.
-/
import Derived.Test.YtmjmafgjejphbaaLawSpan
import Derived.Test.YtmjmafgjejphbaaPi
import Derived.Test.YtmjmafgjejphbaaGrowth
import Derived.Test.YtmjmafgjejphbaaSpanMeet
namespace Go.Proofs.Ytmjmafgjejphbaa
open Go.RowKit

/-- A function returns a struct of two numbers and makes blocks of its own alone. -/
abbrev Gives2 (P : Program) (f : FuncId) (args : Array Value) (x y : Int) : Prop := ∀ w : World, Calls P f args w fun e w' => e = .returned (.agg #[.int .i64 x, .int .i64 y]) ∧ Below w.heap.size w w'
/-- A function returns a number and makes blocks of its own alone. -/
abbrev Gives1 (P : Program) (f : FuncId) (args : Array Value) (x : Int) : Prop := ∀ w : World, Calls P f args w fun e w' => e = .returned (.int .i64 x) ∧ Below w.heap.size w w'

theorem arc_pack (k : Int) : ∃ X Y : Int, Gives2 Try.prog 37 #[.int .i64 k] X Y ∧ Gives2 Try.prog 38 #[.int .i64 k] X Y ∧
    (¬ (2 ≤ k ∧ k ≤ 65536) → X = 0 ∧ Y = 0) ∧
    (2 ≤ k ∧ k ≤ 65536 → Fx.svalid X Y ∧ X ≤ 268435456 / k + 1 ∧ 268435456 / k - 268435456 / (3 * k * k * k) - 1 ≤ Y ∧ Y - X ≤ 40 ∧ 0 < X ∧
      ((∃ p q : Int, Gives2 Try.prog 37 #[.int .i64 65536] p q ∧ (k = 65535 → p ≤ Y)) ∧
        ∃ p q : Int, Gives2 Try.prog 37 #[.int .i64 (k + 1)] p q ∧ (k < 65535 → p ≤ Y))) := by
  refine ⟨_, _, fun w => arcSpan_any k w, fun w => s_arcSpan_any k w, ?_, ?_⟩
  · intro h; rw [arc_no h]; exact ⟨rfl, rfl⟩
  · intro h
    rw [arc_yes h]
    obtain ⟨v, g1, g2, g3, g4, g5⟩ := Fx.arc_law k h.1 h.2
    refine ⟨v, g1, g2, g3, g5, ⟨_, _, fun w => arcSpan_any 65536 w, ?_⟩, _, _, fun w => arcSpan_any (k + 1) w, ?_⟩
    · rintro rfl
      rw [arc_yes (by omega)]; exact g4
    · intro hk
      rw [arc_yes (by omega)]; exact g4

theorem grow_tab (n : Int) (h : 0 ≤ n ∧ n ≤ 20) : Fx.growthSpan n = Fx.growSTab.getD n.toNat (0, 0) := by
  unfold Fx.growthSpan; rw [if_pos h, Fx.growS_is _ (by omega)]
theorem grow_check : (List.range 21).all (fun n => decide (Fx.svalid (Fx.growSTab.getD n (0, 0)).1 (Fx.growSTab.getD n (0, 0)).2 ∧ 268435456 ≤ (Fx.growSTab.getD n (0, 0)).1 ∧ (Fx.growSTab.getD n (0, 0)).2 < 536870912 ∧
    (Fx.growSTab.getD n (0, 0)).2 - (Fx.growSTab.getD n (0, 0)).1 ≤ 100 ∧ (n = 0 ∨ (Fx.growSTab.getD (n - 1) (0, 0)).1 ≤ (Fx.growSTab.getD n (0, 0)).2))) = true := by decide +kernel
theorem grow_one : Fx.growthSpan 1 = (379625062, 379625063) ∧ Fx.spanMul 379625062 379625063 379625062 379625063 = (536870910, 536870914, true) := by decide +kernel
theorem grow_pack (n : Int) : ∃ X Y : Int, Gives2 Try.prog 48 #[.int .i64 n] X Y ∧ Gives2 Try.prog 47 #[.int .i64 n] X Y ∧
    (¬ (0 ≤ n ∧ n ≤ 20) → X = 0 ∧ Y = 0) ∧
    (0 ≤ n ∧ n ≤ 20 → Fx.svalid X Y ∧ 268435456 ≤ X ∧ Y < 536870912 ∧ Y - X ≤ 100 ∧ ∃ p q : Int, Gives2 Try.prog 48 #[.int .i64 (n - 1)] p q ∧ (n ≠ 0 → p ≤ Y)) := by
  refine ⟨_, _, fun w => growthSpan_any n w, fun w => s_growthSpan_any n w, ?_, ?_⟩
  · intro h
    have e : Fx.growthSpan n = (0, 0) := if_neg h
    rw [e]; exact ⟨rfl, rfl⟩
  · intro h
    have hc := grow_check
    rw [List.all_eq_true] at hc
    have h1 := hc n.toNat (List.mem_range.2 (by omega))
    simp only [decide_eq_true_eq] at h1
    rw [grow_tab n h]
    obtain ⟨v, g1, g2, g3, g4⟩ := h1
    refine ⟨v, g1, g2, g3, _, _, fun w => growthSpan_any (n - 1) w, fun h0 => ?_⟩
    rw [grow_tab (n - 1) (by omega), show (n - 1).toNat = n.toNat - 1 by omega]
    exact g4.resolve_left (by omega)

theorem start_tab (n : Int) (h : 0 ≤ n ∧ n ≤ 20) : Fx.startOf n = Fx.startTab.getD n.toNat 0 := by
  unfold Fx.startOf; rw [if_pos h, Fx.start_is _ (by omega)]
theorem start_check : (List.range 21).all (fun n => decide ((1 ≤ Fx.startTab.getD n 0 ∧ Fx.startTab.getD n 0 ≤ 268435456) ∧ (n = 0 ∨ Fx.startTab.getD n 0 ≤ Fx.startTab.getD (n - 1) 0) ∧
    (Fx.spanMul (Fx.startTab.getD n 0) (Fx.startTab.getD n 0 + 100) (Fx.growSTab.getD n (0, 0)).1 (Fx.growSTab.getD n (0, 0)).2).2.2 = true ∧
    Fx.svalid (Fx.spanMul (Fx.startTab.getD n 0) (Fx.startTab.getD n 0 + 100) (Fx.growSTab.getD n (0, 0)).1 (Fx.growSTab.getD n (0, 0)).2).1 (Fx.spanMul (Fx.startTab.getD n 0) (Fx.startTab.getD n 0 + 100) (Fx.growSTab.getD n (0, 0)).1 (Fx.growSTab.getD n (0, 0)).2).2.1 ∧
    (Fx.spanMul (Fx.startTab.getD n 0) (Fx.startTab.getD n 0 + 100) (Fx.growSTab.getD n (0, 0)).1 (Fx.growSTab.getD n (0, 0)).2).1 ≤ 268435456 ∧
    268435456 ≤ (Fx.spanMul (Fx.startTab.getD n 0) (Fx.startTab.getD n 0 + 100) (Fx.growSTab.getD n (0, 0)).1 (Fx.growSTab.getD n (0, 0)).2).2.1)) = true := by decide +kernel
theorem start_pack (n : Int) : ∃ x : Int, Gives1 Try.prog 52 #[.int .i64 n] x ∧ Gives1 Try.prog 51 #[.int .i64 n] x ∧
    (¬ (0 ≤ n ∧ n ≤ 20) → x = -1) ∧
    (0 ≤ n ∧ n ≤ 20 → (1 ≤ x ∧ x ≤ 268435456) ∧ (∃ y : Int, Gives1 Try.prog 52 #[.int .i64 (n - 1)] y ∧ (n ≠ 0 → x ≤ y)) ∧
      ∃ p q r s : Int, Gives2 Try.prog 48 #[.int .i64 n] p q ∧ GivesS Try.prog 54 #[.agg #[.int .i64 x, .int .i64 (x + 100)], .agg #[.int .i64 p, .int .i64 q]] r s true ∧
        Fx.svalid r s ∧ r ≤ 268435456 ∧ 268435456 ≤ s) := by
  refine ⟨_, fun w => startOf_any n w, fun w => s_startOf_any n w, fun h => if_neg h, ?_⟩
  intro h
  have hc := start_check
  rw [List.all_eq_true] at hc
  have h1 := hc n.toNat (List.mem_range.2 (by omega))
  simp only [decide_eq_true_eq] at h1
  obtain ⟨g1, g2, g3, g4, g5, g6⟩ := h1
  rw [start_tab n h]
  refine ⟨g1, ⟨_, fun w => startOf_any (n - 1) w, fun h0 => ?_⟩, _, _, _, _, fun w => growthSpan_any n w, ?_, g4, g5, g6⟩
  · rw [start_tab (n - 1) (by omega), show (n - 1).toNat = n.toNat - 1 by omega]
    exact g2.resolve_left (by omega)
  · have h3 := fun w => spanMul_any (Fx.startTab.getD n.toNat 0) (Fx.startTab.getD n.toNat 0 + 100) (Fx.growSTab.getD n.toNat (0, 0)).1 (Fx.growSTab.getD n.toNat (0, 0)).2 w
    rw [g3] at h3
    rw [grow_tab n h]
    exact h3

end Go.Proofs.Ytmjmafgjejphbaa
