/-
  Functions that return a struct of two numbers: the block of the result is carried beside the boxes of the parameters.
-/
import Derived.Test.YtmjmafgjejphbaaClass
import Derived.Test.YtmjmafgjejphbaaInt
import Derived.Test.YtmjmafgjejphbaaMathS
namespace Go.Proofs.Ytmjmafgjejphbaa
open Go.RowKit

theorem Hold.box {w W : World} {L : List (Nat × Nat × Value)} (h : Hold w L W) (v u : Value) (T : TypeId) : Hold w ((W.heap.size, 0, v) :: (W.heap.size, 1, u) :: L) (W.alloc (.cells #[v, u] T)) := by
  have h2 := h.below ((Below.refl _ _).alloc (Nat.le_refl _) (.cells #[v, u] T))
  refine ⟨h2.1, fun x hx => ?_⟩
  rcases List.mem_cons.mp hx with rfl | hx
  · exact ⟨by simp, by rw [World.cell?_alloc_at (w := W) _ T _ _ rfl]; rfl⟩
  rcases List.mem_cons.mp hx with rfl | hx
  · exact ⟨by simp, by rw [World.cell?_alloc_at (w := W) _ T _ _ rfl]; rfl⟩
  · exact h2.2 x hx

/-- The block r may be written. -/
def Free (r : Nat) (W : World) : Prop := r < W.heap.size ∧ W.frozen? ⟨r, 0, none⟩ = false ∧ W.frozen? ⟨r, 1, none⟩ = false
theorem Free.below {r : Nat} {W w' : World} (h : Free r W) (hb : Below W.heap.size W w') : Free r w' :=
  ⟨Nat.lt_of_lt_of_le h.1 hb.size, by rw [hb.frozen (p := ⟨r, 0, none⟩) h.1]; exact h.2.1, by rw [hb.frozen (p := ⟨r, 1, none⟩) h.1]; exact h.2.2⟩
theorem Free.made (W : World) (v u : Value) (T : TypeId) : Free W.heap.size (W.alloc (.cells #[v, u] T)) := ⟨by simp, by simp [go_sem], by simp [go_sem]⟩

/-- The boxes of L and the result's block r. -/
def HoldR (w : World) (L : List (Nat × Nat × Value)) (r : Nat) (W : World) : Prop := Hold w L W ∧ w.heap.size ≤ r ∧ Free r W ∧ ∃ v u, W.cell? ⟨r, 0, none⟩ = some v ∧ W.cell? ⟨r, 1, none⟩ = some u
theorem HoldR.below {w W w' : World} {L : List (Nat × Nat × Value)} {r : Nat} (h : HoldR w L r W) (hb : Below W.heap.size W w') : HoldR w L r w' := by
  obtain ⟨h1, h2, h3, v, u, c0, c1⟩ := h
  exact ⟨h1.below hb, h2, h3.below hb, v, u, by rw [hb.cell (p := ⟨r, 0, none⟩) h3.1]; exact c0, by rw [hb.cell (p := ⟨r, 1, none⟩) h3.1]; exact c1⟩
theorem HoldR.made {w W : World} {L : List (Nat × Nat × Value)} (h : Hold w L W) (v u : Value) (T : TypeId) : HoldR w L W.heap.size (W.alloc (.cells #[v, u] T)) :=
  ⟨h.below ((Below.refl _ _).alloc (Nat.le_refl _) _), h.1.size, Free.made W v u T, v, u, by rw [World.cell?_alloc_at (w := W) _ T _ _ rfl]; rfl, by rw [World.cell?_alloc_at (w := W) _ T _ _ rfl]; rfl⟩
theorem holdR0 (w : World) (T : TypeId) : HoldR w [] w.heap.size (w.alloc (.cells #[.int .i64 0, .int .i64 0] T)) := HoldR.made (hold_none w) _ _ T
theorem holdR1 (w : World) (a b : Value) (T T' : TypeId) : HoldR w [(w.heap.size, 0, a), (w.heap.size, 1, b)] (w.heap.size + 1) ((w.alloc (.cells #[a, b] T)).alloc (.cells #[.int .i64 0, .int .i64 0] T')) := by
  have h := HoldR.made (hold_two w a b T) (.int .i64 0) (.int .i64 0) T'
  have e : (w.alloc (.cells #[a, b] T)).heap.size = w.heap.size + 1 := by simp
  rw [e] at h; exact h
theorem holdR2 (w : World) (a b c d : Value) (T T' T2 : TypeId) : HoldR w [(w.heap.size, 0, a), (w.heap.size, 1, b), (w.heap.size + 1, 0, c), (w.heap.size + 1, 1, d)] (w.heap.size + 1 + 1)
    (((w.alloc (.cells #[a, b] T)).alloc (.cells #[c, d] T2)).alloc (.cells #[.int .i64 0, .int .i64 0] T')) := by
  have h := HoldR.made (hold_four w a b c d T T2) (.int .i64 0) (.int .i64 0) T'
  have e : ((w.alloc (.cells #[a, b] T)).alloc (.cells #[c, d] T2)).heap.size = w.heap.size + 1 + 1 := by simp
  rw [e] at h; exact h

theorem HoldR.drewN {w W : World} {L : List (Nat × Nat × Value)} {r : Nat} (h : HoldR w L r W) (n : Nat) : HoldR w L r (W.drewN n) := ⟨⟨⟨h.1.1.os, h.1.1.tape, h.1.1.output, h.1.1.size, h.1.1.block⟩, h.1.2⟩, h.2⟩
/-- What the walk reads of it. -/
theorem HoldR.facts {w W : World} {L : List (Nat × Nat × Value)} {r : Nat} (h : HoldR w L r W) : ∃ v u, (r < W.heap.size ∧ W.frozen? ⟨r, 0, none⟩ = false ∧ W.frozen? ⟨r, 1, none⟩ = false) ∧ W.cell? ⟨r, 0, none⟩ = some v ∧ W.cell? ⟨r, 1, none⟩ = some u :=
  let ⟨_, _, h3, v, u, c⟩ := h
  ⟨v, u, h3, c⟩
/-- Both cells of the result stored. -/
theorem HoldR.done {w W : World} {L : List (Nat × Nat × Value)} {r : Nat} (h : HoldR w L r W) (x y : Value) :
    ((W.setCell ⟨r, 0, none⟩ x).setCell ⟨r, 1, none⟩ y).cell? ⟨r, 0, none⟩ = some x ∧ ((W.setCell ⟨r, 0, none⟩ x).setCell ⟨r, 1, none⟩ y).cell? ⟨r, 1, none⟩ = some y ∧
    Below w.heap.size w ((W.setCell ⟨r, 0, none⟩ x).setCell ⟨r, 1, none⟩ y) := by
  obtain ⟨h1, h2, h3, v, u, c0, c1⟩ := h
  have e0 : (W.setCell ⟨r, 0, none⟩ x).cell? ⟨r, 0, none⟩ = some x := World.cell?_setCell_same W _ _ c0
  have e1 : (W.setCell ⟨r, 0, none⟩ x).cell? ⟨r, 1, none⟩ = some u := by rw [World.cell?_setCell_other W _ _ _ (by simp)]; exact c1
  refine ⟨by rw [World.cell?_setCell_other _ _ _ _ (by simp)]; exact e0, World.cell?_setCell_same _ _ _ e1, ?_⟩
  exact (h1.1.setCell h2 _).setCell h2 _

end Go.Proofs.Ytmjmafgjejphbaa
