/-
  What the law on common numbers of spans needs.
-/
import Derived.Test.YtfllhncilfkamaaLawSpan2
import Derived.Test.YtfllhncilfkamaaSpanMeet
import Derived.Test.YtfllhncilfkamaaDrawMeet
namespace Go.Proofs.Ytfllhncilfkamaa
open Go.RowKit

theorem Hold.row4 {w W : World} {L : List (Nat × Nat × Value)} (h : Hold w L W) (a b c d : Value) (T : TypeId) : Hold w ((W.heap.size, 0, a) :: (W.heap.size, 1, b) :: (W.heap.size, 2, c) :: (W.heap.size, 3, d) :: L) (W.alloc (.cells #[a, b, c, d] T)) := by
  have h2 := h.below ((Below.refl _ _).alloc (Nat.le_refl _) (.cells #[a, b, c, d] T))
  refine ⟨h2.1, fun x hx => ?_⟩
  rcases List.mem_cons.mp hx with rfl | hx
  · exact ⟨by simp, by rw [World.cell?_alloc_at (w := W) _ T _ _ rfl]; rfl⟩
  rcases List.mem_cons.mp hx with rfl | hx
  · exact ⟨by simp, by rw [World.cell?_alloc_at (w := W) _ T _ _ rfl]; rfl⟩
  rcases List.mem_cons.mp hx with rfl | hx
  · exact ⟨by simp, by rw [World.cell?_alloc_at (w := W) _ T _ _ rfl]; rfl⟩
  rcases List.mem_cons.mp hx with rfl | hx
  · exact ⟨by simp, by rw [World.cell?_alloc_at (w := W) _ T _ _ rfl]; rfl⟩
  · exact h2.2 x hx

theorem Hold.more {w W : World} {L : List (Nat × Nat × Value)} {x : Nat × Nat × Value} (h : Hold w L W) (hx : x ∈ L) : Hold w (x :: L) W := ⟨h.1, fun y hy => by
  rcases List.mem_cons.mp hy with rfl | hy
  · exact h.2 _ hx
  · exact h.2 y hy⟩
theorem Hold.less {w W : World} {L : List (Nat × Nat × Value)} {x : Nat × Nat × Value} (h : Hold w (x :: L) W) : Hold w L W := ⟨h.1, fun y hy => h.2 y (List.mem_cons_of_mem _ hy)⟩
/-- The answer of SpanHas. -/
abbrev GivesB (P : Program) (f : FuncId) (args : Array Value) (k : Bool) : Prop := ∀ w : World, Calls P f args w fun e w' => e = .returned (.bool k) ∧ Below w.heap.size w w'

theorem has_at (a b n : Int) : GivesB Try.prog 28 #[.agg #[.int .i64 a, .int .i64 b], .int .i64 n] (decide (Fx.svalid a b ∧ a ≤ n ∧ n ≤ b)) := by
  by_cases h : Fx.svalid a b ∧ a ≤ n ∧ n ≤ b
  · rw [decide_eq_true h]; exact fun w => spanHas_yes a b n w h.1 h.2
  · rw [decide_eq_false h]; exact fun w => spanHas_no a b n w h

theorem meet_pack (a b c d : Int) : ∃ (X Y : Int) (k : Bool),
    GivesS Try.prog 24 #[.agg #[.int .i64 a, .int .i64 b], .agg #[.int .i64 c, .int .i64 d]] X Y k ∧
    GivesS Try.prog 25 #[.agg #[.int .i64 a, .int .i64 b], .agg #[.int .i64 c, .int .i64 d]] X Y k ∧
    GivesS Try.prog 24 #[.agg #[.int .i64 c, .int .i64 d], .agg #[.int .i64 a, .int .i64 b]] X Y k ∧
    (k = false → X = 0 ∧ Y = 0) ∧ (¬ (Fx.svalid a b ∧ Fx.svalid c d) → k = false) ∧
    ∀ n : Int, Fx.svalid a b → Fx.svalid c d → ((decide (Fx.svalid a b ∧ a ≤ n ∧ n ≤ b) && decide (Fx.svalid c d ∧ c ≤ n ∧ n ≤ d)) = (k && decide (Fx.svalid X Y ∧ X ≤ n ∧ n ≤ Y))) := by
  have h0 := Fx.tri_cases (Fx.svalid a b ∧ Fx.svalid c d) (max a c) (min b d)
  refine ⟨_, _, _, fun w => spanMeet_any a b c d w, fun w => s_spanMeet_any a b c d w, ?_, ?_, ?_, ?_⟩
  · have h := fun w => spanMeet_any c d a b w
    rw [Fx.spanMeet_comm a b c d] at h
    exact h
  · intro h
    rcases h0 with e | ⟨-, -, e⟩
    · have e : Fx.spanMeet a b c d = _ := e
      rw [e]; exact ⟨rfl, rfl⟩
    · have e : Fx.spanMeet a b c d = _ := e
      rw [e] at h; cases h
  · intro h
    have e : Fx.spanMeet a b c d = (0, 0, false) := if_neg h
    rw [e]
  · intro n v1 v2
    have e : Fx.spanMeet a b c d = Fx.good (max a c) (min b d) := if_pos ⟨v1, v2⟩
    rw [e]
    by_cases v3 : Fx.svalid (max a c) (min b d)
    · rw [Fx.good_yes v3, Bool.true_and, ← Bool.decide_and]
      show _ = decide (Fx.svalid (max a c) (min b d) ∧ max a c ≤ n ∧ n ≤ min b d)
      apply decide_eq_decide.2
      constructor
      · rintro ⟨⟨-, h1, h2⟩, -, h3, h4⟩; exact ⟨v3, by omega, by omega⟩
      · rintro ⟨-, h1, h2⟩; exact ⟨⟨v1, by omega, by omega⟩, v2, by omega, by omega⟩
    · rw [Fx.good_no v3, Bool.false_and, ← Bool.decide_and]
      apply decide_eq_false
      rintro ⟨⟨-, h1, h2⟩, -, h3, h4⟩
      apply v3
      unfold Fx.svalid at *
      omega

end Go.Proofs.Ytfllhncilfkamaa
