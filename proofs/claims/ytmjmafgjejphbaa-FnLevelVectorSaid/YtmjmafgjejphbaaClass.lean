/-
  Regions that draw their order, whose operations read boxes and whose calls may lay blocks: one walk in the order of the text, at the class of worlds 'Held'.
-/
import Derived.Test.YtmjmafgjejphbaaBase
import Derived.Deep.QuietTactic
import Derived.BigQuiet
namespace Go.Proofs.Ytmjmafgjejphbaa
open Go.RowKit

/-- What lay below is as it was; these cells of these blocks hold these values. -/
def Hold (w : World) (L : List (Nat × Nat × Value)) (W : World) : Prop := Below w.heap.size w W ∧ ∀ x ∈ L, x.1 < W.heap.size ∧ W.cell? ⟨x.1, x.2.1, none⟩ = some x.2.2

theorem Hold.below {w W w' : World} {L : List (Nat × Nat × Value)} (h : Hold w L W) (hb : Below W.heap.size W w') : Hold w L w' :=
  ⟨h.1.trans (hb.mono h.1.size), fun x hx => ⟨Nat.lt_of_lt_of_le (h.2 x hx).1 hb.size, by rw [hb.cell (p := ⟨x.1, x.2.1, none⟩) (h.2 x hx).1]; exact (h.2 x hx).2⟩⟩

theorem Hold.drew {w W : World} {L : List (Nat × Nat × Value)} (h : Hold w L W) : Hold w L W.drew := ⟨h.1.drew, h.2⟩

theorem hold_none (w : World) : Hold w [] w := ⟨Below.refl _ _, by simp⟩
theorem hold_two (w : World) (v u : Value) (T : TypeId) : Hold w [(w.heap.size, 0, v), (w.heap.size, 1, u)] (w.alloc (.cells #[v, u] T)) :=
  have h := box_two w v u T
  ⟨h.1, by simp [h.2]⟩
theorem hold_three (w : World) (v u x : Value) (T : TypeId) : Hold w [(w.heap.size, 0, v), (w.heap.size, 1, u), (w.heap.size, 2, x)] (w.alloc (.cells #[v, u, x] T)) :=
  have h := box_three w v u x T
  ⟨h.1, by simp [h.2]⟩
theorem hold_four (w : World) (v u x y : Value) (T T' : TypeId) : Hold w [(w.heap.size, 0, v), (w.heap.size, 1, u), (w.heap.size + 1, 0, x), (w.heap.size + 1, 1, y)] ((w.alloc (.cells #[v, u] T)).alloc (.cells #[x, y] T')) :=
  have h := box_four w v u x y T T'
  ⟨h.1, by
    intro z hz
    simp only [List.mem_cons, List.not_mem_nil, or_false] at hz
    rcases hz with rfl | rfl | rfl | rfl
    · exact ⟨h.2.1.1, h.2.1.2.1⟩
    · exact ⟨h.2.1.1, h.2.1.2.2⟩
    · exact ⟨h.2.2.1, h.2.2.2.1⟩
    · exact ⟨h.2.2.1, h.2.2.2.2⟩⟩

/-- A world of the class. -/
structure Held (w : World) (L : List (Nat × Nat × Value)) where
  it : World
  ok : Hold w L it
theorem Held.at0 {w : World} {a : Nat × Nat × Value} {L : List (Nat × Nat × Value)} (x : Held w (a :: L)) : x.it.cell? ⟨a.1, a.2.1, none⟩ = some a.2.2 := (x.ok.2 a (by simp)).2
theorem Held.at1 {w : World} {a b : Nat × Nat × Value} {L : List (Nat × Nat × Value)} (x : Held w (a :: b :: L)) : x.it.cell? ⟨b.1, b.2.1, none⟩ = some b.2.2 := (x.ok.2 b (by simp)).2
theorem Held.at2 {w : World} {a b c : Nat × Nat × Value} {L : List (Nat × Nat × Value)} (x : Held w (a :: b :: c :: L)) : x.it.cell? ⟨c.1, c.2.1, none⟩ = some c.2.2 := (x.ok.2 c (by simp)).2
theorem Held.at3 {w : World} {a b c d : Nat × Nat × Value} {L : List (Nat × Nat × Value)} (x : Held w (a :: b :: c :: d :: L)) : x.it.cell? ⟨d.1, d.2.1, none⟩ = some d.2.2 := (x.ok.2 d (by simp)).2
theorem Held.at4 {w : World} {a b c d e : Nat × Nat × Value} {L : List (Nat × Nat × Value)} (x : Held w (a :: b :: c :: d :: e :: L)) : x.it.cell? ⟨e.1, e.2.1, none⟩ = some e.2.2 := (x.ok.2 e (by simp)).2
theorem Held.at5 {w : World} {a b c d e f : Nat × Nat × Value} {L : List (Nat × Nat × Value)} (x : Held w (a :: b :: c :: d :: e :: f :: L)) : x.it.cell? ⟨f.1, f.2.1, none⟩ = some f.2.2 := (x.ok.2 f (by simp)).2

theorem Calls.held {P : Program} {f : FuncId} {args : Array Value} {w : World} {L : List (Nat × Nat × Value)} {v : Value} {x : Held w L}
    (h : Calls P f args x.it fun e w' => e = .returned v ∧ Below x.it.heap.size x.it w') : Calls P f args x.it fun e w' => e = .returned v ∧ ∃ y : Held w L, w' = y.it :=
  h.mono fun _ w' ⟨he, hb⟩ => ⟨he, ⟨w', x.ok.below hb⟩, rfl⟩

theorem Calls.held_same {P : Program} {f : FuncId} {args : Array Value} {w : World} {L : List (Nat × Nat × Value)} {v : Value} {x : Held w L}
    (h : Calls P f args x.it fun e w' => e = .returned v ∧ x.it = w') : Calls P f args x.it fun e w' => e = .returned v ∧ ∃ y : Held w L, w' = y.it :=
  h.mono fun _ _ ⟨he, hb⟩ => ⟨he, x, hb.symm⟩

/-- A region that draws its order, at the class of worlds 'Held w L'. -/
theorem wp_region_hold {P : Program} {id : Nat} {Q : Exit → Act → World → Prop} {a : Act} {w W : World} {l : List Oper} (L : List (Nat × Nat × Value)) (hx : Hold w L W) (hm : P.follows .mixedOrders = true) (hB : Region.lexB .any l.toArray = true)
    (h : wpQuiet P l.toArray (fun w' => ∃ x : Held w L, w' = x.it) (fun a' => ∀ w', Hold w L w' → Q .normal a' w') l a) : (Code.region id l.toArray true).wp P Q a W := by
  have e : (fun w' => ∃ x : Held w L, w' = x.it) = Hold w L := funext fun w' => propext ⟨fun ⟨x, hx⟩ => hx ▸ x.ok, fun h => ⟨⟨w', h⟩, rfl⟩⟩
  rw [e] at h
  exact wp_region_quiet (C := Hold w L) hm hB hx.drew (by simpa using h)

end Go.Proofs.Ytmjmafgjejphbaa
