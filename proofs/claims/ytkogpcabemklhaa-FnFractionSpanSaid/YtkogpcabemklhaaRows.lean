/-
  No cell of these rows narrows 'for every input' (looked for: loops, veiled, ifaces, maps, wideKeys, modest, calm, conditions, laid).
  DERIVED. THE GIVEN ROWS OF THIS SEAT. 10 by the template 'for every input the law returns true; each argument reads behind the call as it read before'; 0 by the template 'total and deterministic' (their statements: YtkogpcabemklhaaTotals.lean).
  GIVEN WITH THE SEED: the statements are not yours to turn. If you find one false, say at which input.
  Laid BY PROGRAM, IN A SANDBOX (cutbox-rows.mjs): the forced cells as the released guide's own fill.sh prints them over the translation 5276a801252c78f3… (all of the seat's roots in one cut). By AI agents, Wed Nov 11 2026. No macro, syntax, notation, axiom, sorry.
-/
import Derived.Test.YtkogpcabemklhaaChecked
import GoSem.Claim
import GoSem.ClaimJoined
import GoSem.ClaimMapViews
import Derived.JoinedTies
import Derived.KernelRfl
namespace Go.Proofs.Ytkogpcabemklhaa
/- THE CELL 'sum', in the pinned program and in every row, IS THE sha256 OF THE DUMP (.gsa) THAT YtkogpcabemklhaaProg.lean LOADS. Nothing in Lean hashes anything: it is a label: what it is worth is what the hold of that sum in a sandbox is worth. -/
noncomputable def Try.pinned : Pinned := { name := "ytkogpcabemklhaa", sum := "5276a801252c78f3520298e43a2ac6025d8c8421fd6a84eb02d6e764e5f694cc", checked := Try.checked }
namespace Rows
def none {H : Type} : Left H := { results := [], args := [] }

/-- 'laws.FnSpanNeg': WHATEVER THE INPUT: true; the input reads as it did. -/
def fnSpanNegSpec : ChangeSpec := { name := "fnSpanNeg", fn := fun _ => fun
  | [d] => { results := [.lit (.bool true)], args := [d] }
  | _ => none }
def fnSpanNegRow : OpenClaim := { program := "ytkogpcabemklhaa", sum := "5276a801252c78f3520298e43a2ac6025d8c8421fd6a84eb02d6e764e5f694cc", func := "loop.example/fixedmath/laws.FnSpanNeg", spec := "fnSpanNeg", apart := false }
def FnSpanNegSaid : Prop := fnSpanNegRow.holds Try.pinned (OpenSpec.ofChange fnSpanNegSpec)

/-- ITS FALSE NEIGHBOUR: 'it returns false'. Refute it at one input. -/
def fnSpanNegWrong : ChangeSpec := { name := "fnSpanNeg", fn := fun _ => fun
  | [d] => { results := [.lit (.bool false)], args := [d] }
  | _ => none }
def FnSpanNegWrongFalsely : Prop := fnSpanNegRow.holds Try.pinned (OpenSpec.ofChange fnSpanNegWrong)

/-- 'laws.FnExactSpanMul': WHATEVER THE INPUT: true; the input reads as it did. -/
def fnExactSpanMulSpec : ChangeSpec := { name := "fnExactSpanMul", fn := fun _ => fun
  | [d1, d2] => { results := [.lit (.bool true)], args := [d1, d2] }
  | _ => none }
def fnExactSpanMulRow : OpenClaim := { program := "ytkogpcabemklhaa", sum := "5276a801252c78f3520298e43a2ac6025d8c8421fd6a84eb02d6e764e5f694cc", func := "loop.example/fixedmath/laws.FnExactSpanMul", spec := "fnExactSpanMul", apart := false }
def FnExactSpanMulSaid : Prop := fnExactSpanMulRow.holds Try.pinned (OpenSpec.ofChange fnExactSpanMulSpec)

/-- ITS FALSE NEIGHBOUR: 'it returns false'. Refute it at one input. -/
def fnExactSpanMulWrong : ChangeSpec := { name := "fnExactSpanMul", fn := fun _ => fun
  | [d1, d2] => { results := [.lit (.bool false)], args := [d1, d2] }
  | _ => none }
def FnExactSpanMulWrongFalsely : Prop := fnExactSpanMulRow.holds Try.pinned (OpenSpec.ofChange fnExactSpanMulWrong)

/-- 'laws.FnSpanAdd': WHATEVER THE INPUT: true; the input reads as it did. -/
def fnSpanAddSpec : ChangeSpec := { name := "fnSpanAdd", fn := fun _ => fun
  | [d] => { results := [.lit (.bool true)], args := [d] }
  | _ => none }
def fnSpanAddRow : OpenClaim := { program := "ytkogpcabemklhaa", sum := "5276a801252c78f3520298e43a2ac6025d8c8421fd6a84eb02d6e764e5f694cc", func := "loop.example/fixedmath/laws.FnSpanAdd", spec := "fnSpanAdd", apart := false }
def FnSpanAddSaid : Prop := fnSpanAddRow.holds Try.pinned (OpenSpec.ofChange fnSpanAddSpec)

/-- ITS FALSE NEIGHBOUR: 'it returns false'. Refute it at one input. -/
def fnSpanAddWrong : ChangeSpec := { name := "fnSpanAdd", fn := fun _ => fun
  | [d] => { results := [.lit (.bool false)], args := [d] }
  | _ => none }
def FnSpanAddWrongFalsely : Prop := fnSpanAddRow.holds Try.pinned (OpenSpec.ofChange fnSpanAddWrong)

/-- 'laws.FnSpanMeet': WHATEVER THE INPUT: true; the input reads as it did. -/
def fnSpanMeetSpec : ChangeSpec := { name := "fnSpanMeet", fn := fun _ => fun
  | [d] => { results := [.lit (.bool true)], args := [d] }
  | _ => none }
def fnSpanMeetRow : OpenClaim := { program := "ytkogpcabemklhaa", sum := "5276a801252c78f3520298e43a2ac6025d8c8421fd6a84eb02d6e764e5f694cc", func := "loop.example/fixedmath/laws.FnSpanMeet", spec := "fnSpanMeet", apart := false }
def FnSpanMeetSaid : Prop := fnSpanMeetRow.holds Try.pinned (OpenSpec.ofChange fnSpanMeetSpec)

/-- ITS FALSE NEIGHBOUR: 'it returns false'. Refute it at one input. -/
def fnSpanMeetWrong : ChangeSpec := { name := "fnSpanMeet", fn := fun _ => fun
  | [d] => { results := [.lit (.bool false)], args := [d] }
  | _ => none }
def FnSpanMeetWrongFalsely : Prop := fnSpanMeetRow.holds Try.pinned (OpenSpec.ofChange fnSpanMeetWrong)

/-- 'laws.FnFractionSpan': WHATEVER THE INPUT: true; the input reads as it did. -/
def fnFractionSpanSpec : ChangeSpec := { name := "fnFractionSpan", fn := fun _ => fun
  | [d] => { results := [.lit (.bool true)], args := [d] }
  | _ => none }
def fnFractionSpanRow : OpenClaim := { program := "ytkogpcabemklhaa", sum := "5276a801252c78f3520298e43a2ac6025d8c8421fd6a84eb02d6e764e5f694cc", func := "loop.example/fixedmath/laws.FnFractionSpan", spec := "fnFractionSpan", apart := false }
def FnFractionSpanSaid : Prop := fnFractionSpanRow.holds Try.pinned (OpenSpec.ofChange fnFractionSpanSpec)

/-- ITS FALSE NEIGHBOUR: 'it returns false'. Refute it at one input. -/
def fnFractionSpanWrong : ChangeSpec := { name := "fnFractionSpan", fn := fun _ => fun
  | [d] => { results := [.lit (.bool false)], args := [d] }
  | _ => none }
def FnFractionSpanWrongFalsely : Prop := fnFractionSpanRow.holds Try.pinned (OpenSpec.ofChange fnFractionSpanWrong)

/-- 'laws.FnSpanTimes': WHATEVER THE INPUT: true; the input reads as it did. -/
def fnSpanTimesSpec : ChangeSpec := { name := "fnSpanTimes", fn := fun _ => fun
  | [d] => { results := [.lit (.bool true)], args := [d] }
  | _ => none }
def fnSpanTimesRow : OpenClaim := { program := "ytkogpcabemklhaa", sum := "5276a801252c78f3520298e43a2ac6025d8c8421fd6a84eb02d6e764e5f694cc", func := "loop.example/fixedmath/laws.FnSpanTimes", spec := "fnSpanTimes", apart := false }
def FnSpanTimesSaid : Prop := fnSpanTimesRow.holds Try.pinned (OpenSpec.ofChange fnSpanTimesSpec)

/-- ITS FALSE NEIGHBOUR: 'it returns false'. Refute it at one input. -/
def fnSpanTimesWrong : ChangeSpec := { name := "fnSpanTimes", fn := fun _ => fun
  | [d] => { results := [.lit (.bool false)], args := [d] }
  | _ => none }
def FnSpanTimesWrongFalsely : Prop := fnSpanTimesRow.holds Try.pinned (OpenSpec.ofChange fnSpanTimesWrong)

/-- 'laws.FnSpanMul': WHATEVER THE INPUT: true; the input reads as it did. -/
def fnSpanMulSpec : ChangeSpec := { name := "fnSpanMul", fn := fun _ => fun
  | [d] => { results := [.lit (.bool true)], args := [d] }
  | _ => none }
def fnSpanMulRow : OpenClaim := { program := "ytkogpcabemklhaa", sum := "5276a801252c78f3520298e43a2ac6025d8c8421fd6a84eb02d6e764e5f694cc", func := "loop.example/fixedmath/laws.FnSpanMul", spec := "fnSpanMul", apart := false }
def FnSpanMulSaid : Prop := fnSpanMulRow.holds Try.pinned (OpenSpec.ofChange fnSpanMulSpec)

/-- ITS FALSE NEIGHBOUR: 'it returns false'. Refute it at one input. -/
def fnSpanMulWrong : ChangeSpec := { name := "fnSpanMul", fn := fun _ => fun
  | [d] => { results := [.lit (.bool false)], args := [d] }
  | _ => none }
def FnSpanMulWrongFalsely : Prop := fnSpanMulRow.holds Try.pinned (OpenSpec.ofChange fnSpanMulWrong)

/-- 'laws.FnSpanNarrow': WHATEVER THE INPUT: true; the input reads as it did. -/
def fnSpanNarrowSpec : ChangeSpec := { name := "fnSpanNarrow", fn := fun _ => fun
  | [d] => { results := [.lit (.bool true)], args := [d] }
  | _ => none }
def fnSpanNarrowRow : OpenClaim := { program := "ytkogpcabemklhaa", sum := "5276a801252c78f3520298e43a2ac6025d8c8421fd6a84eb02d6e764e5f694cc", func := "loop.example/fixedmath/laws.FnSpanNarrow", spec := "fnSpanNarrow", apart := false }
def FnSpanNarrowSaid : Prop := fnSpanNarrowRow.holds Try.pinned (OpenSpec.ofChange fnSpanNarrowSpec)

/-- ITS FALSE NEIGHBOUR: 'it returns false'. Refute it at one input. -/
def fnSpanNarrowWrong : ChangeSpec := { name := "fnSpanNarrow", fn := fun _ => fun
  | [d] => { results := [.lit (.bool false)], args := [d] }
  | _ => none }
def FnSpanNarrowWrongFalsely : Prop := fnSpanNarrowRow.holds Try.pinned (OpenSpec.ofChange fnSpanNarrowWrong)

/-- 'laws.FnSpanDiv': WHATEVER THE INPUT: true; the input reads as it did. -/
def fnSpanDivSpec : ChangeSpec := { name := "fnSpanDiv", fn := fun _ => fun
  | [d] => { results := [.lit (.bool true)], args := [d] }
  | _ => none }
def fnSpanDivRow : OpenClaim := { program := "ytkogpcabemklhaa", sum := "5276a801252c78f3520298e43a2ac6025d8c8421fd6a84eb02d6e764e5f694cc", func := "loop.example/fixedmath/laws.FnSpanDiv", spec := "fnSpanDiv", apart := false }
def FnSpanDivSaid : Prop := fnSpanDivRow.holds Try.pinned (OpenSpec.ofChange fnSpanDivSpec)

/-- ITS FALSE NEIGHBOUR: 'it returns false'. Refute it at one input. -/
def fnSpanDivWrong : ChangeSpec := { name := "fnSpanDiv", fn := fun _ => fun
  | [d] => { results := [.lit (.bool false)], args := [d] }
  | _ => none }
def FnSpanDivWrongFalsely : Prop := fnSpanDivRow.holds Try.pinned (OpenSpec.ofChange fnSpanDivWrong)

/-- 'laws.FnQuotientSpan': WHATEVER THE INPUT: true; the input reads as it did. -/
def fnQuotientSpanSpec : ChangeSpec := { name := "fnQuotientSpan", fn := fun _ => fun
  | [d] => { results := [.lit (.bool true)], args := [d] }
  | _ => none }
def fnQuotientSpanRow : OpenClaim := { program := "ytkogpcabemklhaa", sum := "5276a801252c78f3520298e43a2ac6025d8c8421fd6a84eb02d6e764e5f694cc", func := "loop.example/fixedmath/laws.FnQuotientSpan", spec := "fnQuotientSpan", apart := false }
def FnQuotientSpanSaid : Prop := fnQuotientSpanRow.holds Try.pinned (OpenSpec.ofChange fnQuotientSpanSpec)

/-- ITS FALSE NEIGHBOUR: 'it returns false'. Refute it at one input. -/
def fnQuotientSpanWrong : ChangeSpec := { name := "fnQuotientSpan", fn := fun _ => fun
  | [d] => { results := [.lit (.bool false)], args := [d] }
  | _ => none }
def FnQuotientSpanWrongFalsely : Prop := fnQuotientSpanRow.holds Try.pinned (OpenSpec.ofChange fnQuotientSpanWrong)

/- THE SECOND FORM. 'bulk': how many values and letters a reading holds, each counted each time it is reached (what is shared counts as often as it is met; a slice's spare places count too). A statement '..UptoSaid' is the law's where the arguments, and the package variables that the reading takes, are together of bulk at most 1048576: NARROWER than '..Said'. Prove '..Said' where nothing that the law and all that it calls make is longer than what came in: it says more and counts as full. Else prove '..UptoSaid'. A law counts once. -/
mutual
def uptoBulk {H : Type} : DataW H → Nat
  | .lit (.string bytes) => bytes.length + 1
  | .lit _ => 1
  | .nil => 1
  | .ptr d => uptoBulk d + 1
  | .slice elems spare => uptoBulkAll elems + uptoBulkAll spare + 1
  | .agg parts => uptoBulkAll parts + 1
  | .iface _ d => uptoBulk d + 1
  | .map entries => uptoBulkEntries entries + 1
  | .held _ => 1
def uptoBulkAll {H : Type} : List (DataW H) → Nat
  | [] => 0
  | d :: r => uptoBulk d + uptoBulkAll r
def uptoBulkEntries {H : Type} : List (Lit × DataW H) → Nat
  | [] => 0
  | x :: r => uptoBulkEntry x + uptoBulkEntries r
def uptoBulkEntry {H : Type} : Lit × DataW H → Nat
  | (.string bytes, d) => bytes.length + uptoBulk d + 1
  | (_, d) => uptoBulk d + 1
 end
def uptoSmall : (H : Type) → List (DataW H) → Bool := fun _ ds => decide (uptoBulkAll ds ≤ 1048576)
def OpenSpec.upto (s : _root_.Go.ChangeSpec) : _root_.Go.OpenSpec := { _root_.Go.OpenSpec.ofChange s with cond := some uptoSmall }

/-- 'laws.FnSpanNeg', WHERE WHAT IT READS IS OF BULK AT MOST 1048576: true; the input reads as it did. -/
def fnSpanNegUptoRow : OpenClaim := { program := "ytkogpcabemklhaa", sum := "5276a801252c78f3520298e43a2ac6025d8c8421fd6a84eb02d6e764e5f694cc", func := "loop.example/fixedmath/laws.FnSpanNeg", spec := "fnSpanNeg", apart := false, narrowed := true }
def FnSpanNegUptoSaid : Prop := fnSpanNegUptoRow.holds Try.pinned (OpenSpec.upto fnSpanNegSpec)

/-- 'laws.FnExactSpanMul', WHERE WHAT IT READS IS OF BULK AT MOST 1048576: true; the input reads as it did. -/
def fnExactSpanMulUptoRow : OpenClaim := { program := "ytkogpcabemklhaa", sum := "5276a801252c78f3520298e43a2ac6025d8c8421fd6a84eb02d6e764e5f694cc", func := "loop.example/fixedmath/laws.FnExactSpanMul", spec := "fnExactSpanMul", apart := false, narrowed := true }
def FnExactSpanMulUptoSaid : Prop := fnExactSpanMulUptoRow.holds Try.pinned (OpenSpec.upto fnExactSpanMulSpec)

/-- 'laws.FnSpanAdd', WHERE WHAT IT READS IS OF BULK AT MOST 1048576: true; the input reads as it did. -/
def fnSpanAddUptoRow : OpenClaim := { program := "ytkogpcabemklhaa", sum := "5276a801252c78f3520298e43a2ac6025d8c8421fd6a84eb02d6e764e5f694cc", func := "loop.example/fixedmath/laws.FnSpanAdd", spec := "fnSpanAdd", apart := false, narrowed := true }
def FnSpanAddUptoSaid : Prop := fnSpanAddUptoRow.holds Try.pinned (OpenSpec.upto fnSpanAddSpec)

/-- 'laws.FnSpanMeet', WHERE WHAT IT READS IS OF BULK AT MOST 1048576: true; the input reads as it did. -/
def fnSpanMeetUptoRow : OpenClaim := { program := "ytkogpcabemklhaa", sum := "5276a801252c78f3520298e43a2ac6025d8c8421fd6a84eb02d6e764e5f694cc", func := "loop.example/fixedmath/laws.FnSpanMeet", spec := "fnSpanMeet", apart := false, narrowed := true }
def FnSpanMeetUptoSaid : Prop := fnSpanMeetUptoRow.holds Try.pinned (OpenSpec.upto fnSpanMeetSpec)

/-- 'laws.FnFractionSpan', WHERE WHAT IT READS IS OF BULK AT MOST 1048576: true; the input reads as it did. -/
def fnFractionSpanUptoRow : OpenClaim := { program := "ytkogpcabemklhaa", sum := "5276a801252c78f3520298e43a2ac6025d8c8421fd6a84eb02d6e764e5f694cc", func := "loop.example/fixedmath/laws.FnFractionSpan", spec := "fnFractionSpan", apart := false, narrowed := true }
def FnFractionSpanUptoSaid : Prop := fnFractionSpanUptoRow.holds Try.pinned (OpenSpec.upto fnFractionSpanSpec)

/-- 'laws.FnSpanTimes', WHERE WHAT IT READS IS OF BULK AT MOST 1048576: true; the input reads as it did. -/
def fnSpanTimesUptoRow : OpenClaim := { program := "ytkogpcabemklhaa", sum := "5276a801252c78f3520298e43a2ac6025d8c8421fd6a84eb02d6e764e5f694cc", func := "loop.example/fixedmath/laws.FnSpanTimes", spec := "fnSpanTimes", apart := false, narrowed := true }
def FnSpanTimesUptoSaid : Prop := fnSpanTimesUptoRow.holds Try.pinned (OpenSpec.upto fnSpanTimesSpec)

/-- 'laws.FnSpanMul', WHERE WHAT IT READS IS OF BULK AT MOST 1048576: true; the input reads as it did. -/
def fnSpanMulUptoRow : OpenClaim := { program := "ytkogpcabemklhaa", sum := "5276a801252c78f3520298e43a2ac6025d8c8421fd6a84eb02d6e764e5f694cc", func := "loop.example/fixedmath/laws.FnSpanMul", spec := "fnSpanMul", apart := false, narrowed := true }
def FnSpanMulUptoSaid : Prop := fnSpanMulUptoRow.holds Try.pinned (OpenSpec.upto fnSpanMulSpec)

/-- 'laws.FnSpanNarrow', WHERE WHAT IT READS IS OF BULK AT MOST 1048576: true; the input reads as it did. -/
def fnSpanNarrowUptoRow : OpenClaim := { program := "ytkogpcabemklhaa", sum := "5276a801252c78f3520298e43a2ac6025d8c8421fd6a84eb02d6e764e5f694cc", func := "loop.example/fixedmath/laws.FnSpanNarrow", spec := "fnSpanNarrow", apart := false, narrowed := true }
def FnSpanNarrowUptoSaid : Prop := fnSpanNarrowUptoRow.holds Try.pinned (OpenSpec.upto fnSpanNarrowSpec)

/-- 'laws.FnSpanDiv', WHERE WHAT IT READS IS OF BULK AT MOST 1048576: true; the input reads as it did. -/
def fnSpanDivUptoRow : OpenClaim := { program := "ytkogpcabemklhaa", sum := "5276a801252c78f3520298e43a2ac6025d8c8421fd6a84eb02d6e764e5f694cc", func := "loop.example/fixedmath/laws.FnSpanDiv", spec := "fnSpanDiv", apart := false, narrowed := true }
def FnSpanDivUptoSaid : Prop := fnSpanDivUptoRow.holds Try.pinned (OpenSpec.upto fnSpanDivSpec)

/-- 'laws.FnQuotientSpan', WHERE WHAT IT READS IS OF BULK AT MOST 1048576: true; the input reads as it did. -/
def fnQuotientSpanUptoRow : OpenClaim := { program := "ytkogpcabemklhaa", sum := "5276a801252c78f3520298e43a2ac6025d8c8421fd6a84eb02d6e764e5f694cc", func := "loop.example/fixedmath/laws.FnQuotientSpan", spec := "fnQuotientSpan", apart := false, narrowed := true }
def FnQuotientSpanUptoSaid : Prop := fnQuotientSpanUptoRow.holds Try.pinned (OpenSpec.upto fnQuotientSpanSpec)

end Rows
end Go.Proofs.Ytkogpcabemklhaa
