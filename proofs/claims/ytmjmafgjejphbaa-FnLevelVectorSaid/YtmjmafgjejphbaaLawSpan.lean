/-
  What the laws on spans need of the functions, each as one bundle; the draw of two spans for products.
-/
import Derived.Test.YtmjmafgjejphbaaMathS2
import Derived.Test.YtmjmafgjejphbaaSpanAdd
import Derived.Test.YtmjmafgjejphbaaSpanMul
import Derived.Test.YtmjmafgjejphbaaDrawSpans
import Derived.Test.YtmjmafgjejphbaaHead
namespace Go.Proofs.Ytmjmafgjejphbaa
open Go.RowKit

/-- A function returns a struct of two numbers and a Bool and makes blocks of its own alone. -/
abbrev GivesS (P : Program) (f : FuncId) (args : Array Value) (x y : Int) (k : Bool) : Prop := ∀ w : World, Calls P f args w fun e w' => e = .returned (.tuple #[.agg #[.int .i64 x, .int .i64 y], .bool k]) ∧ Below w.heap.size w w'

theorem alive_b (w : World) : Calls Try.prog 28 #[] w fun e w' => e = .returned (.bool true) ∧ Below w.heap.size w w' := (alive_any w).mono fun _ _ ⟨h1, h2⟩ => ⟨h1, h2 ▸ Below.refl _ _⟩

theorem mul_pack (a b c d : Int) : ∃ (X Y : Int) (k : Bool),
    GivesS Try.prog 54 #[.agg #[.int .i64 a, .int .i64 b], .agg #[.int .i64 c, .int .i64 d]] X Y k ∧
    GivesS Try.prog 90 #[.agg #[.int .i64 a, .int .i64 b], .agg #[.int .i64 c, .int .i64 d]] X Y k ∧
    GivesS Try.prog 54 #[.agg #[.int .i64 c, .int .i64 d], .agg #[.int .i64 a, .int .i64 b]] X Y k ∧
    (k = false → X = 0 ∧ Y = 0) ∧ (k = true → Fx.svalid a b ∧ Fx.svalid c d ∧ Fx.svalid X Y ∧
      (∀ n m : Int, a ≤ n ∧ n ≤ b → c ≤ m ∧ m ≤ d → X * 268435456 ≤ n * m ∧ n * m ≤ Y * 268435456) ∧ True ∧
      ∃ X' Y' : Int, GivesS Try.prog 54 #[.agg #[.int .i64 a, .int .i64 a], .agg #[.int .i64 c, .int .i64 d]] X' Y' true ∧ X ≤ X' ∧ Y' ≤ Y) := by
  refine ⟨_, _, _, fun w => spanMul_any a b c d w, fun w => s_spanMul_any a b c d w, ?_, ?_, ?_⟩
  · have h := fun w => spanMul_any c d a b w
    rw [Fx.mul_comm4 c d a b] at h
    exact h
  · intro h
    rcases Fx.tri_cases (Fx.svalid a b ∧ Fx.svalid c d) (Fx.mulLo a b c d) (Fx.mulHi a b c d) with e | ⟨-, -, e⟩
    · have e : Fx.spanMul a b c d = _ := e
      rw [e]; exact ⟨rfl, rfl⟩
    · have e : Fx.spanMul a b c d = _ := e
      rw [e] at h; cases h
  · intro h
    rcases Fx.tri_cases (Fx.svalid a b ∧ Fx.svalid c d) (Fx.mulLo a b c d) (Fx.mulHi a b c d) with e | ⟨⟨v1, v2⟩, v3, e⟩
    · have e : Fx.spanMul a b c d = _ := e
      rw [e] at h; cases h
    · have e : Fx.spanMul a b c d = _ := e
      rw [e]
      obtain ⟨n1, n2, n3⟩ := Fx.mul_narrow v3
      refine ⟨v1, v2, v3, ?_, trivial, Fx.mulLo a a c d, Fx.mulHi a a c d, ?_, n1, n2⟩
      · intro n m hn hm
        have hb := Fx.bilinear hn hm
        exact ⟨Fx.mul_lo_le a b c d _ hb.1, Fx.mul_hi_ge a b c d _ hb.2⟩
      · have h3 := fun w => spanMul_any a a c d w
        have e3 : Fx.spanMul a a c d = (Fx.mulLo a a c d, Fx.mulHi a a c d, true) := by
          unfold Fx.spanMul
          rw [if_pos ⟨⟨v1.1, v1.1, Int.le_refl _⟩, v2⟩, Fx.good_yes n3]
        rw [e3] at h3
        exact h3

theorem put4_cells {W : World} {b c : Nat} (hne : b ≠ c) {v0 u0 v1 u1 : Value} (h0 : W.cell? ⟨b, 0, none⟩ = some v0) (h1 : W.cell? ⟨b, 1, none⟩ = some u0) (h2 : W.cell? ⟨c, 0, none⟩ = some v1) (h3 : W.cell? ⟨c, 1, none⟩ = some u1) (x y z t : Value) :
    ((((W.setCell ⟨b, 0, none⟩ x).setCell ⟨b, 1, none⟩ y).setCell ⟨c, 0, none⟩ z).setCell ⟨c, 1, none⟩ t).cell? ⟨b, 0, none⟩ = some x ∧
    ((((W.setCell ⟨b, 0, none⟩ x).setCell ⟨b, 1, none⟩ y).setCell ⟨c, 0, none⟩ z).setCell ⟨c, 1, none⟩ t).cell? ⟨b, 1, none⟩ = some y ∧
    ((((W.setCell ⟨b, 0, none⟩ x).setCell ⟨b, 1, none⟩ y).setCell ⟨c, 0, none⟩ z).setCell ⟨c, 1, none⟩ t).cell? ⟨c, 0, none⟩ = some z ∧
    ((((W.setCell ⟨b, 0, none⟩ x).setCell ⟨b, 1, none⟩ y).setCell ⟨c, 0, none⟩ z).setCell ⟨c, 1, none⟩ t).cell? ⟨c, 1, none⟩ = some t := by
  refine ⟨?_, ?_, ?_, ?_⟩
  · rw [World.cell?_setCell_other _ _ _ _ (fun hh => by have j1 := congrArg Addr.block hh; have j2 := congrArg Addr.off hh; dsimp only at j1 j2; omega), World.cell?_setCell_other _ _ _ _ (fun hh => by have j1 := congrArg Addr.block hh; have j2 := congrArg Addr.off hh; dsimp only at j1 j2; omega), World.cell?_setCell_other _ _ _ _ (fun hh => by have j1 := congrArg Addr.block hh; have j2 := congrArg Addr.off hh; dsimp only at j1 j2; omega)]
    exact World.cell?_setCell_same _ _ _ h0
  · rw [World.cell?_setCell_other _ _ _ _ (fun hh => by have j1 := congrArg Addr.block hh; have j2 := congrArg Addr.off hh; dsimp only at j1 j2; omega), World.cell?_setCell_other _ _ _ _ (fun hh => by have j1 := congrArg Addr.block hh; have j2 := congrArg Addr.off hh; dsimp only at j1 j2; omega)]
    exact World.cell?_setCell_same _ _ _ (by rw [World.cell?_setCell_other _ _ _ _ (fun hh => by have j1 := congrArg Addr.block hh; have j2 := congrArg Addr.off hh; dsimp only at j1 j2; omega)]; exact h1)
  · rw [World.cell?_setCell_other _ _ _ _ (fun hh => by have j1 := congrArg Addr.block hh; have j2 := congrArg Addr.off hh; dsimp only at j1 j2; omega)]
    exact World.cell?_setCell_same _ _ _ (by rw [World.cell?_setCell_other _ _ _ _ (fun hh => by have j1 := congrArg Addr.block hh; have j2 := congrArg Addr.off hh; dsimp only at j1 j2; omega), World.cell?_setCell_other _ _ _ _ (fun hh => by have j1 := congrArg Addr.block hh; have j2 := congrArg Addr.off hh; dsimp only at j1 j2; omega)]; exact h2)
  · exact World.cell?_setCell_same _ _ _ (by rw [World.cell?_setCell_other _ _ _ _ (fun hh => by have j1 := congrArg Addr.block hh; have j2 := congrArg Addr.off hh; dsimp only at j1 j2; omega), World.cell?_setCell_other _ _ _ _ (fun hh => by have j1 := congrArg Addr.block hh; have j2 := congrArg Addr.off hh; dsimp only at j1 j2; omega), World.cell?_setCell_other _ _ _ _ (fun hh => by have j1 := congrArg Addr.block hh; have j2 := congrArg Addr.off hh; dsimp only at j1 j2; omega)]; exact h3)

