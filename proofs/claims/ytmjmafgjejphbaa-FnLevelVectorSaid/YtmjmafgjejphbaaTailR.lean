/-
  Regions that draw their order and store, or lay a block, at their end: at the classes of worlds 'Hold' and 'HoldR'.
-/
import Derived.Test.YtmjmafgjejphbaaSpan0
import Derived.Test.YtmjmafgjejphbaaTail
namespace Go.Proofs.Ytmjmafgjejphbaa
open Go.RowKit

/-- A world of the class HoldR. -/
structure HeldR (w : World) (L : List (Nat × Nat × Value)) (r : Nat) where
  it : World
  ok : HoldR w L r it
theorem HeldR.at0 {w : World} {r : Nat} {a : Nat × Nat × Value} {L : List (Nat × Nat × Value)} (x : HeldR w (a :: L) r) : x.it.cell? ⟨a.1, a.2.1, none⟩ = some a.2.2 := (x.ok.1.2 a (by simp)).2
theorem HeldR.at1 {w : World} {r : Nat} {a b : Nat × Nat × Value} {L : List (Nat × Nat × Value)} (x : HeldR w (a :: b :: L) r) : x.it.cell? ⟨b.1, b.2.1, none⟩ = some b.2.2 := (x.ok.1.2 b (by simp)).2
theorem HeldR.at2 {w : World} {r : Nat} {a b c : Nat × Nat × Value} {L : List (Nat × Nat × Value)} (x : HeldR w (a :: b :: c :: L) r) : x.it.cell? ⟨c.1, c.2.1, none⟩ = some c.2.2 := (x.ok.1.2 c (by simp)).2
theorem HeldR.at3 {w : World} {r : Nat} {a b c d : Nat × Nat × Value} {L : List (Nat × Nat × Value)} (x : HeldR w (a :: b :: c :: d :: L) r) : x.it.cell? ⟨d.1, d.2.1, none⟩ = some d.2.2 := (x.ok.1.2 d (by simp)).2
theorem HeldR.at4 {w : World} {r : Nat} {a b c d e : Nat × Nat × Value} {L : List (Nat × Nat × Value)} (x : HeldR w (a :: b :: c :: d :: e :: L) r) : x.it.cell? ⟨e.1, e.2.1, none⟩ = some e.2.2 := (x.ok.1.2 e (by simp)).2

theorem HoldR.drew {w W : World} {L : List (Nat × Nat × Value)} {r : Nat} (h : HoldR w L r W) : HoldR w L r W.drew := ⟨h.1.drew, h.2⟩
theorem Calls.heldR {P : Program} {f : FuncId} {args : Array Value} {w : World} {L : List (Nat × Nat × Value)} {r : Nat} {v : Value} {x : HeldR w L r}
    (h : Calls P f args x.it fun e w' => e = .returned v ∧ Below x.it.heap.size x.it w') : Calls P f args x.it fun e w' => e = .returned v ∧ ∃ y : HeldR w L r, w' = y.it :=
  h.mono fun _ w' ⟨he, hb⟩ => ⟨he, ⟨w', x.ok.below hb⟩, rfl⟩
theorem Calls.heldR_same {P : Program} {f : FuncId} {args : Array Value} {w : World} {L : List (Nat × Nat × Value)} {r : Nat} {v : Value} {x : HeldR w L r}
    (h : Calls P f args x.it fun e w' => e = .returned v ∧ x.it = w') : Calls P f args x.it fun e w' => e = .returned v ∧ ∃ y : HeldR w L r, w' = y.it :=
  h.mono fun _ _ ⟨he, hb⟩ => ⟨he, x, hb.symm⟩

theorem heldR_class (w : World) (L : List (Nat × Nat × Value)) (r : Nat) : (fun w' => ∃ x : HeldR w L r, w' = x.it) = HoldR w L r :=
  funext fun w' => propext ⟨fun ⟨x, hx⟩ => hx ▸ x.ok, fun h => ⟨⟨w', h⟩, rfl⟩⟩
theorem held_class (w : World) (L : List (Nat × Nat × Value)) : (fun w' => ∃ x : Held w L, w' = x.it) = Hold w L :=
  funext fun w' => propext ⟨fun ⟨x, hx⟩ => hx ▸ x.ok, fun h => ⟨⟨w', h⟩, rfl⟩⟩

/-- A region that draws its order, at the class HoldR. -/
theorem wp_region_holdR {P : Program} {id : Nat} {Q : Exit → Act → World → Prop} {a : Act} {w W : World} {l : List Oper} {L : List (Nat × Nat × Value)} {r : Nat} (hx : HoldR w L r W) (hm : P.follows .mixedOrders = true) (hB : Region.lexB .any l.toArray = true)
    (h : wpQuiet P l.toArray (fun w' => ∃ x : HeldR w L r, w' = x.it) (fun a' => ∀ w', HoldR w L r w' → Q .normal a' w') l a) : (Code.region id l.toArray true).wp P Q a W := by
  rw [heldR_class] at h
  exact wp_region_quiet (C := HoldR w L r) hm hB hx.drew (by simpa using h)
/-- Its operations from number n on come up in one order. -/
theorem wp_region_holdR_tail {P : Program} {id : Nat} {Q : Exit → Act → World → Prop} {a : Act} {w W : World} {l : List Oper} {L : List (Nat × Nat × Value)} {r : Nat} (n : Nat) (hx : HoldR w L r W) (hm : P.follows .mixedOrders = true) (hB : Region.lexTailB .any l.toArray n = true)
    (h : wpQuiet P l.toArray (fun w' => ∃ x : HeldR w L r, w' = x.it) (fun a' => ∀ w', HoldR w L r w' → wpList P l.toArray Q (l.drop n) a' w') (l.take n) a) : (Code.region id l.toArray true).wp P Q a W := by
  rw [heldR_class] at h
  exact Fxt.wp_region_quiet_tail (C := HoldR w L r) n hm hB hx.drew h
theorem wp_region_hold_tail {P : Program} {id : Nat} {Q : Exit → Act → World → Prop} {a : Act} {w W : World} {l : List Oper} {L : List (Nat × Nat × Value)} (n : Nat) (hx : Hold w L W) (hm : P.follows .mixedOrders = true) (hB : Region.lexTailB .any l.toArray n = true)
    (h : wpQuiet P l.toArray (fun w' => ∃ x : Held w L, w' = x.it) (fun a' => ∀ w', Hold w L w' → wpList P l.toArray Q (l.drop n) a' w') (l.take n) a) : (Code.region id l.toArray true).wp P Q a W := by
  rw [held_class] at h
  exact Fxt.wp_region_quiet_tail (C := Hold w L) n hm hB hx.drew h

end Go.Proofs.Ytmjmafgjejphbaa
