/-
  Regions that draw their order, whose operations read boxes and whose calls may lay blocks: one walk in the order of the text, at the class of worlds 'Hold'.
-/
import Derived.Test.YtjbaegbdacpdnaaBase
import Derived.Deep.QuietTactic
import Derived.BigQuiet
namespace Go.Proofs.Ytjbaegbdacpdnaa
open Go.RowKit

/-- What lay below is as it was; these cells of these blocks hold these values. -/
def Hold (w : World) (L : List (Nat × Nat × Value)) (W : World) : Prop := Below w.heap.size w W ∧ ∀ x ∈ L, x.1 < W.heap.size ∧ W.cell? ⟨x.1, x.2.1, none⟩ = some x.2.2

theorem Hold.below {w W w' : World} {L : List (Nat × Nat × Value)} (h : Hold w L W) (hb : Below W.heap.size W w') : Hold w L w' :=
  ⟨h.1.trans (hb.mono h.1.size), fun x hx => ⟨Nat.lt_of_lt_of_le (h.2 x hx).1 hb.size, by rw [hb.cell (p := ⟨x.1, x.2.1, none⟩) (h.2 x hx).1]; exact (h.2 x hx).2⟩⟩

theorem Hold.drew {w W : World} {L : List (Nat × Nat × Value)} (h : Hold w L W) : Hold w L W.drew := ⟨h.1.drew, h.2⟩

theorem hold_two (w : World) (v u : Value) (T : TypeId) : Hold w [(w.heap.size, 0, v), (w.heap.size, 1, u)] (w.alloc (.cells #[v, u] T)) :=
  have h := box_two w v u T
  ⟨h.1, by simp [h.2]⟩
theorem hold_three (w : World) (v u x : Value) (T : TypeId) : Hold w [(w.heap.size, 0, v), (w.heap.size, 1, u), (w.heap.size, 2, x)] (w.alloc (.cells #[v, u, x] T)) :=
  have h := box_three w v u x T
  ⟨h.1, by simp [h.2]⟩
theorem hold_four (w : World) (v u x y : Value) (T T' : TypeId) : Hold w [(w.heap.size, 0, v), (w.heap.size, 1, u), (w.heap.size + 1, 0, x), (w.heap.size + 1, 1, y)] ((w.alloc (.cells #[v, u] T)).alloc (.cells #[x, y] T')) :=
  have h := box_four w v u x y T T'
  ⟨h.1, by
    intro z hz
    simp only [List.mem_cons, List.not_mem_nil, or_false] at hz
    rcases hz with rfl | rfl | rfl | rfl
    · exact ⟨h.2.1.1, h.2.1.2.1⟩
    · exact ⟨h.2.1.1, h.2.1.2.2⟩
    · exact ⟨h.2.2.1, h.2.2.2.1⟩
    · exact ⟨h.2.2.1, h.2.2.2.2⟩⟩

/-- The cells that hx tells, laid as facts. -/
macro "go_facts" : tactic => `(tactic| (have $(Lean.mkIdent `hf):ident := ($(Lean.mkIdent `hx):ident).2; simp only [List.forall_mem_cons, List.not_mem_nil, false_imp_iff, implies_true, and_true] at $(Lean.mkIdent `hf):ident))

theorem Calls.hold {P : Program} {f : FuncId} {args : Array Value} {w W : World} {L : List (Nat × Nat × Value)} {v : Value}
    (h : Calls P f args W fun e w' => e = .returned v ∧ Below W.heap.size W w') (hC : Hold w L W) : Calls P f args W fun e w' => e = .returned v ∧ Hold w L w' :=
  h.mono fun _ _ ⟨he, hb⟩ => ⟨he, hC.below hb⟩

theorem Calls.hold_same {P : Program} {f : FuncId} {args : Array Value} {w W : World} {L : List (Nat × Nat × Value)} {v : Value}
    (h : Calls P f args W fun e w' => e = .returned v ∧ W = w') (hC : Hold w L W) : Calls P f args W fun e w' => e = .returned v ∧ Hold w L w' :=
  h.mono fun _ _ ⟨he, hb⟩ => ⟨he, hb ▸ hC⟩

theorem quiet_at {P : Program} {o : Oper} {a : Act} {C : World → Prop} {K : Act → Prop} (v : Value) (h1 : ∀ w, C w → o.quietAt P a C w v) (h2 : K (a.put o.dst v)) : o.quiet P a C K := ⟨v, h1, h2⟩

open Lean Meta Elab Tactic Go.BigFrame in
/-- One operation 'o.quiet P a C K' that is no move: 'tac' closes '∀ W, C W → o.quietAt P a C W ?v' and names v. -/
elab "go_class_op " "(" tac:tactic ")" : tactic => withMainContext do
  let g ← getMainGoal
  let t := (← instantiateMVars (← g.getType)).consumeMData
  unless t.isAppOfArity ``Oper.quiet 5 do throwError "go_class_op: no operation"
  let args := t.getAppArgs
  let (P, o, a, C, K) := (args[0]!, args[1]!, args[2]!, args[3]!, args[4]!)
  let v ← mkFreshExprMVar (mkConst ``Value)
  let ty ← withLocalDeclD `W (mkConst ``World) fun W => do mkForallFVars #[W] (← mkArrow (mkApp C W).headBeta (mkAppN (mkConst ``Oper.quietAt) #[P, o, a, C, W, v]))
  let h1 ← mkFreshExprSyntheticOpaqueMVar ty
  let left ← Tactic.run h1.mvarId! (evalTactic tac)
  unless left.isEmpty do throwError "go_class_op: the tactic left goals"
  let v ← instantiateMVars v
  let some a' := putDst a o v | throwError "go_class_op: which slot?"
  let h2 ← mkFreshExprSyntheticOpaqueMVar (mkApp K a') (← g.getTag)
  g.assign (mkAppN (mkConst (``quiet_at)) #[P, o, a, C, K, v, ← instantiateMVars h1, h2])
  replaceMainGoal [h2.mvarId!]

theorem wp_region_hold {P : Program} {id : Nat} {Q : Exit → Act → World → Prop} {a : Act} {w W : World} {l : List Oper} (L : List (Nat × Nat × Value)) (hx : Hold w L W) (hm : P.follows .mixedOrders = true) (hB : Region.lexB .any l.toArray = true)
    (h : wpQuiet P l.toArray (Hold w L) (fun a' => ∀ w', Hold w L w' → Q .normal a' w') l a) : (Code.region id l.toArray true).wp P Q a W :=
  wp_region_quiet (C := Hold w L) hm hB hx.drew (by simpa using h)

macro "go_class_step " "(" tac:tacticSeq ")" : tactic => `(tactic|
  first
    | go_big_quiet_skip
    | (go_big_quiet_want
       first
         | (go_big_quiet_op; go_big_quiet_on)
         | (go_class_op ((intro Wq $(Lean.mkIdent `hW):ident; have $(Lean.mkIdent `hf):ident := ($(Lean.mkIdent `hW):ident).2; simp only [List.forall_mem_cons, List.not_mem_nil, false_imp_iff, implies_true, and_true] at $(Lean.mkIdent `hf):ident; go_simp; first | done | exact rfl | exact ⟨rfl, rfl⟩ | ($tac:tacticSeq))); go_big_quiet_on)))

/-- The region; 'hx : Hold w L W' in the context. 'tac' closes a call (hW: 'Hold' of the world at hand). Behind it: 'hx : Hold w L W'' at a new world. -/
macro "go_class " L:term:max "(" tac:tacticSeq ")" : tactic => `(tactic|
  (refine wp_region_hold $L (by assumption) (by kernel_rfl) (by kernel_rfl) ?_
   repeat (go_class_step ($tac:tacticSeq))
   refine wpQuiet_nil ?_
   intro _ $(Lean.mkIdent `hx):ident))

end Go.Proofs.Ytjbaegbdacpdnaa
