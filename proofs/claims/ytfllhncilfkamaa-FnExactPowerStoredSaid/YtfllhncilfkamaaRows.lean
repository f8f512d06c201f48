/-
  No cell of these rows narrows 'for every input' (looked for: loops, veiled, ifaces, maps, wideKeys, modest, calm, conditions, laid).
  DERIVED. THE GIVEN ROWS OF THIS SEAT. 16 by the template 'for every input the law returns true; each argument reads behind the call as it read before'; 0 by the template 'total and deterministic' (their statements: YtfllhncilfkamaaTotals.lean).
  GIVEN WITH THE SEED: the statements are not yours to turn. If you find one false, say at which input.
  Laid BY PROGRAM, IN A SANDBOX (cutbox-rows.mjs): the forced cells as the released guide's own fill.sh prints them over the translation d3676e1b30cc03d7… (all of the seat's roots in one cut). By AI agents, Wed Nov 11 2026. No macro, syntax, notation, axiom, sorry.
-/
import Derived.Test.YtfllhncilfkamaaChecked
import GoSem.Claim
import GoSem.ClaimJoined
import GoSem.ClaimMapViews
import Derived.JoinedTies
import Derived.KernelRfl
namespace Go.Proofs.Ytfllhncilfkamaa
/- THE CELL 'sum', in the pinned program and in every row, IS THE sha256 OF THE DUMP (.gsa) THAT YtfllhncilfkamaaProg.lean LOADS. Nothing in Lean hashes anything: it is a label: what it is worth is what the hold of that sum in a sandbox is worth. -/
noncomputable def Try.pinned : Pinned := { name := "ytfllhncilfkamaa", sum := "d3676e1b30cc03d78e273bd1d7c6e6d4b2bd59cf65c15492f11aa299843b8884", checked := Try.checked }
namespace Rows
def none {H : Type} : Left H := { results := [], args := [] }

/-- 'laws.FnExactSpanMul': WHATEVER THE INPUT: true; the input reads as it did. -/
def fnExactSpanMulSpec : ChangeSpec := { name := "fnExactSpanMul", fn := fun _ => fun
  | [d1, d2] => { results := [.lit (.bool true)], args := [d1, d2] }
  | _ => none }
def fnExactSpanMulRow : OpenClaim := { program := "ytfllhncilfkamaa", sum := "d3676e1b30cc03d78e273bd1d7c6e6d4b2bd59cf65c15492f11aa299843b8884", func := "loop.example/fixedmath/laws.FnExactSpanMul", spec := "fnExactSpanMul", apart := false }
def FnExactSpanMulSaid : Prop := fnExactSpanMulRow.holds Try.pinned (OpenSpec.ofChange fnExactSpanMulSpec)

/-- ITS FALSE NEIGHBOUR: 'it returns false'. Refute it at one input. -/
def fnExactSpanMulWrong : ChangeSpec := { name := "fnExactSpanMul", fn := fun _ => fun
  | [d1, d2] => { results := [.lit (.bool false)], args := [d1, d2] }
  | _ => none }
def FnExactSpanMulWrongFalsely : Prop := fnExactSpanMulRow.holds Try.pinned (OpenSpec.ofChange fnExactSpanMulWrong)

/-- 'laws.FnSpanMeet': WHATEVER THE INPUT: true; the input reads as it did. -/
def fnSpanMeetSpec : ChangeSpec := { name := "fnSpanMeet", fn := fun _ => fun
  | [d] => { results := [.lit (.bool true)], args := [d] }
  | _ => none }
def fnSpanMeetRow : OpenClaim := { program := "ytfllhncilfkamaa", sum := "d3676e1b30cc03d78e273bd1d7c6e6d4b2bd59cf65c15492f11aa299843b8884", func := "loop.example/fixedmath/laws.FnSpanMeet", spec := "fnSpanMeet", apart := false }
def FnSpanMeetSaid : Prop := fnSpanMeetRow.holds Try.pinned (OpenSpec.ofChange fnSpanMeetSpec)

/-- ITS FALSE NEIGHBOUR: 'it returns false'. Refute it at one input. -/
def fnSpanMeetWrong : ChangeSpec := { name := "fnSpanMeet", fn := fun _ => fun
  | [d] => { results := [.lit (.bool false)], args := [d] }
  | _ => none }
def FnSpanMeetWrongFalsely : Prop := fnSpanMeetRow.holds Try.pinned (OpenSpec.ofChange fnSpanMeetWrong)

/-- 'laws.FnSpanDiv': WHATEVER THE INPUT: true; the input reads as it did. -/
def fnSpanDivSpec : ChangeSpec := { name := "fnSpanDiv", fn := fun _ => fun
  | [d] => { results := [.lit (.bool true)], args := [d] }
  | _ => none }
def fnSpanDivRow : OpenClaim := { program := "ytfllhncilfkamaa", sum := "d3676e1b30cc03d78e273bd1d7c6e6d4b2bd59cf65c15492f11aa299843b8884", func := "loop.example/fixedmath/laws.FnSpanDiv", spec := "fnSpanDiv", apart := false }
def FnSpanDivSaid : Prop := fnSpanDivRow.holds Try.pinned (OpenSpec.ofChange fnSpanDivSpec)

/-- ITS FALSE NEIGHBOUR: 'it returns false'. Refute it at one input. -/
def fnSpanDivWrong : ChangeSpec := { name := "fnSpanDiv", fn := fun _ => fun
  | [d] => { results := [.lit (.bool false)], args := [d] }
  | _ => none }
def FnSpanDivWrongFalsely : Prop := fnSpanDivRow.holds Try.pinned (OpenSpec.ofChange fnSpanDivWrong)

/-- 'laws.FnQuotientSpan': WHATEVER THE INPUT: true; the input reads as it did. -/
def fnQuotientSpanSpec : ChangeSpec := { name := "fnQuotientSpan", fn := fun _ => fun
  | [d] => { results := [.lit (.bool true)], args := [d] }
  | _ => none }
def fnQuotientSpanRow : OpenClaim := { program := "ytfllhncilfkamaa", sum := "d3676e1b30cc03d78e273bd1d7c6e6d4b2bd59cf65c15492f11aa299843b8884", func := "loop.example/fixedmath/laws.FnQuotientSpan", spec := "fnQuotientSpan", apart := false }
def FnQuotientSpanSaid : Prop := fnQuotientSpanRow.holds Try.pinned (OpenSpec.ofChange fnQuotientSpanSpec)

/-- ITS FALSE NEIGHBOUR: 'it returns false'. Refute it at one input. -/
def fnQuotientSpanWrong : ChangeSpec := { name := "fnQuotientSpan", fn := fun _ => fun
  | [d] => { results := [.lit (.bool false)], args := [d] }
  | _ => none }
def FnQuotientSpanWrongFalsely : Prop := fnQuotientSpanRow.holds Try.pinned (OpenSpec.ofChange fnQuotientSpanWrong)

/-- 'laws.FnExactSpanSqrt': WHATEVER THE INPUT: true; the input reads as it did. -/
def fnExactSpanSqrtSpec : ChangeSpec := { name := "fnExactSpanSqrt", fn := fun _ => fun
  | [d] => { results := [.lit (.bool true)], args := [d] }
  | _ => none }
def fnExactSpanSqrtRow : OpenClaim := { program := "ytfllhncilfkamaa", sum := "d3676e1b30cc03d78e273bd1d7c6e6d4b2bd59cf65c15492f11aa299843b8884", func := "loop.example/fixedmath/laws.FnExactSpanSqrt", spec := "fnExactSpanSqrt", apart := false }
def FnExactSpanSqrtSaid : Prop := fnExactSpanSqrtRow.holds Try.pinned (OpenSpec.ofChange fnExactSpanSqrtSpec)

/-- ITS FALSE NEIGHBOUR: 'it returns false'. Refute it at one input. -/
def fnExactSpanSqrtWrong : ChangeSpec := { name := "fnExactSpanSqrt", fn := fun _ => fun
  | [d] => { results := [.lit (.bool false)], args := [d] }
  | _ => none }
def FnExactSpanSqrtWrongFalsely : Prop := fnExactSpanSqrtRow.holds Try.pinned (OpenSpec.ofChange fnExactSpanSqrtWrong)

/-- 'laws.FnExactSpanPower': WHATEVER THE INPUT: true; the input reads as it did. -/
def fnExactSpanPowerSpec : ChangeSpec := { name := "fnExactSpanPower", fn := fun _ => fun
  | [d1, d2] => { results := [.lit (.bool true)], args := [d1, d2] }
  | _ => none }
def fnExactSpanPowerRow : OpenClaim := { program := "ytfllhncilfkamaa", sum := "d3676e1b30cc03d78e273bd1d7c6e6d4b2bd59cf65c15492f11aa299843b8884", func := "loop.example/fixedmath/laws.FnExactSpanPower", spec := "fnExactSpanPower", apart := false }
def FnExactSpanPowerSaid : Prop := fnExactSpanPowerRow.holds Try.pinned (OpenSpec.ofChange fnExactSpanPowerSpec)

/-- ITS FALSE NEIGHBOUR: 'it returns false'. Refute it at one input. -/
def fnExactSpanPowerWrong : ChangeSpec := { name := "fnExactSpanPower", fn := fun _ => fun
  | [d1, d2] => { results := [.lit (.bool false)], args := [d1, d2] }
  | _ => none }
def FnExactSpanPowerWrongFalsely : Prop := fnExactSpanPowerRow.holds Try.pinned (OpenSpec.ofChange fnExactSpanPowerWrong)

/-- 'laws.FnExactTwoRoot': WHATEVER THE INPUT: true; the input reads as it did. -/
def fnExactTwoRootSpec : ChangeSpec := { name := "fnExactTwoRoot", fn := fun _ => fun
  | [d] => { results := [.lit (.bool true)], args := [d] }
  | _ => none }
def fnExactTwoRootRow : OpenClaim := { program := "ytfllhncilfkamaa", sum := "d3676e1b30cc03d78e273bd1d7c6e6d4b2bd59cf65c15492f11aa299843b8884", func := "loop.example/fixedmath/laws.FnExactTwoRoot", spec := "fnExactTwoRoot", apart := false }
def FnExactTwoRootSaid : Prop := fnExactTwoRootRow.holds Try.pinned (OpenSpec.ofChange fnExactTwoRootSpec)

/-- ITS FALSE NEIGHBOUR: 'it returns false'. Refute it at one input. -/
def fnExactTwoRootWrong : ChangeSpec := { name := "fnExactTwoRoot", fn := fun _ => fun
  | [d] => { results := [.lit (.bool false)], args := [d] }
  | _ => none }
def FnExactTwoRootWrongFalsely : Prop := fnExactTwoRootRow.holds Try.pinned (OpenSpec.ofChange fnExactTwoRootWrong)

/-- 'laws.FnSpanSqrt': WHATEVER THE INPUT: true; the input reads as it did. -/
def fnSpanSqrtSpec : ChangeSpec := { name := "fnSpanSqrt", fn := fun _ => fun
  | [d] => { results := [.lit (.bool true)], args := [d] }
  | _ => none }
def fnSpanSqrtRow : OpenClaim := { program := "ytfllhncilfkamaa", sum := "d3676e1b30cc03d78e273bd1d7c6e6d4b2bd59cf65c15492f11aa299843b8884", func := "loop.example/fixedmath/laws.FnSpanSqrt", spec := "fnSpanSqrt", apart := false }
def FnSpanSqrtSaid : Prop := fnSpanSqrtRow.holds Try.pinned (OpenSpec.ofChange fnSpanSqrtSpec)

/-- ITS FALSE NEIGHBOUR: 'it returns false'. Refute it at one input. -/
def fnSpanSqrtWrong : ChangeSpec := { name := "fnSpanSqrt", fn := fun _ => fun
  | [d] => { results := [.lit (.bool false)], args := [d] }
  | _ => none }
def FnSpanSqrtWrongFalsely : Prop := fnSpanSqrtRow.holds Try.pinned (OpenSpec.ofChange fnSpanSqrtWrong)

/-- 'laws.FnTwoRoot': WHATEVER THE INPUT: true; the input reads as it did. -/
def fnTwoRootSpec : ChangeSpec := { name := "fnTwoRoot", fn := fun _ => fun
  | [d] => { results := [.lit (.bool true)], args := [d] }
  | _ => none }
def fnTwoRootRow : OpenClaim := { program := "ytfllhncilfkamaa", sum := "d3676e1b30cc03d78e273bd1d7c6e6d4b2bd59cf65c15492f11aa299843b8884", func := "loop.example/fixedmath/laws.FnTwoRoot", spec := "fnTwoRoot", apart := false }
def FnTwoRootSaid : Prop := fnTwoRootRow.holds Try.pinned (OpenSpec.ofChange fnTwoRootSpec)

/-- ITS FALSE NEIGHBOUR: 'it returns false'. Refute it at one input. -/
def fnTwoRootWrong : ChangeSpec := { name := "fnTwoRoot", fn := fun _ => fun
  | [d] => { results := [.lit (.bool false)], args := [d] }
  | _ => none }
def FnTwoRootWrongFalsely : Prop := fnTwoRootRow.holds Try.pinned (OpenSpec.ofChange fnTwoRootWrong)

/-- 'laws.FnSquareSpan': WHATEVER THE INPUT: true; the input reads as it did. -/
def fnSquareSpanSpec : ChangeSpec := { name := "fnSquareSpan", fn := fun _ => fun
  | [d] => { results := [.lit (.bool true)], args := [d] }
  | _ => none }
def fnSquareSpanRow : OpenClaim := { program := "ytfllhncilfkamaa", sum := "d3676e1b30cc03d78e273bd1d7c6e6d4b2bd59cf65c15492f11aa299843b8884", func := "loop.example/fixedmath/laws.FnSquareSpan", spec := "fnSquareSpan", apart := false }
def FnSquareSpanSaid : Prop := fnSquareSpanRow.holds Try.pinned (OpenSpec.ofChange fnSquareSpanSpec)

/-- ITS FALSE NEIGHBOUR: 'it returns false'. Refute it at one input. -/
def fnSquareSpanWrong : ChangeSpec := { name := "fnSquareSpan", fn := fun _ => fun
  | [d] => { results := [.lit (.bool false)], args := [d] }
  | _ => none }
def FnSquareSpanWrongFalsely : Prop := fnSquareSpanRow.holds Try.pinned (OpenSpec.ofChange fnSquareSpanWrong)

/-- 'laws.FnSpanPower': WHATEVER THE INPUT: true; the input reads as it did. -/
def fnSpanPowerSpec : ChangeSpec := { name := "fnSpanPower", fn := fun _ => fun
  | [d] => { results := [.lit (.bool true)], args := [d] }
  | _ => none }
def fnSpanPowerRow : OpenClaim := { program := "ytfllhncilfkamaa", sum := "d3676e1b30cc03d78e273bd1d7c6e6d4b2bd59cf65c15492f11aa299843b8884", func := "loop.example/fixedmath/laws.FnSpanPower", spec := "fnSpanPower", apart := false }
def FnSpanPowerSaid : Prop := fnSpanPowerRow.holds Try.pinned (OpenSpec.ofChange fnSpanPowerSpec)

/-- ITS FALSE NEIGHBOUR: 'it returns false'. Refute it at one input. -/
def fnSpanPowerWrong : ChangeSpec := { name := "fnSpanPower", fn := fun _ => fun
  | [d] => { results := [.lit (.bool false)], args := [d] }
  | _ => none }
def FnSpanPowerWrongFalsely : Prop := fnSpanPowerRow.holds Try.pinned (OpenSpec.ofChange fnSpanPowerWrong)

/-- 'laws.FnExactTwoPower': WHATEVER THE INPUT: true; the input reads as it did. -/
def fnExactTwoPowerSpec : ChangeSpec := { name := "fnExactTwoPower", fn := fun _ => fun
  | [d] => { results := [.lit (.bool true)], args := [d] }
  | _ => none }
def fnExactTwoPowerRow : OpenClaim := { program := "ytfllhncilfkamaa", sum := "d3676e1b30cc03d78e273bd1d7c6e6d4b2bd59cf65c15492f11aa299843b8884", func := "loop.example/fixedmath/laws.FnExactTwoPower", spec := "fnExactTwoPower", apart := false }
def FnExactTwoPowerSaid : Prop := fnExactTwoPowerRow.holds Try.pinned (OpenSpec.ofChange fnExactTwoPowerSpec)

/-- ITS FALSE NEIGHBOUR: 'it returns false'. Refute it at one input. -/
def fnExactTwoPowerWrong : ChangeSpec := { name := "fnExactTwoPower", fn := fun _ => fun
  | [d] => { results := [.lit (.bool false)], args := [d] }
  | _ => none }
def FnExactTwoPowerWrongFalsely : Prop := fnExactTwoPowerRow.holds Try.pinned (OpenSpec.ofChange fnExactTwoPowerWrong)

/-- 'laws.FnTwoPower': WHATEVER THE INPUT: true; the input reads as it did. -/
def fnTwoPowerSpec : ChangeSpec := { name := "fnTwoPower", fn := fun _ => fun
  | [d] => { results := [.lit (.bool true)], args := [d] }
  | _ => none }
def fnTwoPowerRow : OpenClaim := { program := "ytfllhncilfkamaa", sum := "d3676e1b30cc03d78e273bd1d7c6e6d4b2bd59cf65c15492f11aa299843b8884", func := "loop.example/fixedmath/laws.FnTwoPower", spec := "fnTwoPower", apart := false }
def FnTwoPowerSaid : Prop := fnTwoPowerRow.holds Try.pinned (OpenSpec.ofChange fnTwoPowerSpec)

/-- ITS FALSE NEIGHBOUR: 'it returns false'. Refute it at one input. -/
def fnTwoPowerWrong : ChangeSpec := { name := "fnTwoPower", fn := fun _ => fun
  | [d] => { results := [.lit (.bool false)], args := [d] }
  | _ => none }
def FnTwoPowerWrongFalsely : Prop := fnTwoPowerRow.holds Try.pinned (OpenSpec.ofChange fnTwoPowerWrong)

/-- 'laws.FnPowerSum': WHATEVER THE INPUT: true; the input reads as it did. -/
def fnPowerSumSpec : ChangeSpec := { name := "fnPowerSum", fn := fun _ => fun
  | [d] => { results := [.lit (.bool true)], args := [d] }
  | _ => none }
def fnPowerSumRow : OpenClaim := { program := "ytfllhncilfkamaa", sum := "d3676e1b30cc03d78e273bd1d7c6e6d4b2bd59cf65c15492f11aa299843b8884", func := "loop.example/fixedmath/laws.FnPowerSum", spec := "fnPowerSum", apart := false }
def FnPowerSumSaid : Prop := fnPowerSumRow.holds Try.pinned (OpenSpec.ofChange fnPowerSumSpec)

/-- ITS FALSE NEIGHBOUR: 'it returns false'. Refute it at one input. -/
def fnPowerSumWrong : ChangeSpec := { name := "fnPowerSum", fn := fun _ => fun
  | [d] => { results := [.lit (.bool false)], args := [d] }
  | _ => none }
def FnPowerSumWrongFalsely : Prop := fnPowerSumRow.holds Try.pinned (OpenSpec.ofChange fnPowerSumWrong)

/-- 'laws.FnExactPowerStored': WHATEVER THE INPUT: true; the input reads as it did. -/
def fnExactPowerStoredSpec : ChangeSpec := { name := "fnExactPowerStored", fn := fun _ => fun
  | [d1, d2] => { results := [.lit (.bool true)], args := [d1, d2] }
  | _ => none }
def fnExactPowerStoredRow : OpenClaim := { program := "ytfllhncilfkamaa", sum := "d3676e1b30cc03d78e273bd1d7c6e6d4b2bd59cf65c15492f11aa299843b8884", func := "loop.example/fixedmath/laws.FnExactPowerStored", spec := "fnExactPowerStored", apart := false }
def FnExactPowerStoredSaid : Prop := fnExactPowerStoredRow.holds Try.pinned (OpenSpec.ofChange fnExactPowerStoredSpec)

/-- ITS FALSE NEIGHBOUR: 'it returns false'. Refute it at one input. -/
def fnExactPowerStoredWrong : ChangeSpec := { name := "fnExactPowerStored", fn := fun _ => fun
  | [d1, d2] => { results := [.lit (.bool false)], args := [d1, d2] }
  | _ => none }
def FnExactPowerStoredWrongFalsely : Prop := fnExactPowerStoredRow.holds Try.pinned (OpenSpec.ofChange fnExactPowerStoredWrong)

/-- 'laws.FnPowerStored': WHATEVER THE INPUT: true; the input reads as it did. -/
def fnPowerStoredSpec : ChangeSpec := { name := "fnPowerStored", fn := fun _ => fun
  | [d] => { results := [.lit (.bool true)], args := [d] }
  | _ => none }
def fnPowerStoredRow : OpenClaim := { program := "ytfllhncilfkamaa", sum := "d3676e1b30cc03d78e273bd1d7c6e6d4b2bd59cf65c15492f11aa299843b8884", func := "loop.example/fixedmath/laws.FnPowerStored", spec := "fnPowerStored", apart := false }
def FnPowerStoredSaid : Prop := fnPowerStoredRow.holds Try.pinned (OpenSpec.ofChange fnPowerStoredSpec)

/-- ITS FALSE NEIGHBOUR: 'it returns false'. Refute it at one input. -/
def fnPowerStoredWrong : ChangeSpec := { name := "fnPowerStored", fn := fun _ => fun
  | [d] => { results := [.lit (.bool false)], args := [d] }
  | _ => none }
def FnPowerStoredWrongFalsely : Prop := fnPowerStoredRow.holds Try.pinned (OpenSpec.ofChange fnPowerStoredWrong)

/- THE SECOND FORM. 'bulk': how many values and letters a reading holds, each counted each time it is reached (what is shared counts as often as it is met; a slice's spare places count too). A statement '..UptoSaid' is the law's where the arguments, and the package variables that the reading takes, are together of bulk at most 1048576: NARROWER than '..Said'. Prove '..Said' where nothing that the law and all that it calls make is longer than what came in: it says more and counts as full. Else prove '..UptoSaid'. A law counts once. -/
mutual
def uptoBulk {H : Type} : DataW H → Nat
  | .lit (.string bytes) => bytes.length + 1
  | .lit _ => 1
  | .nil => 1
  | .ptr d => uptoBulk d + 1
  | .slice elems spare => uptoBulkAll elems + uptoBulkAll spare + 1
  | .agg parts => uptoBulkAll parts + 1
  | .iface _ d => uptoBulk d + 1
  | .map entries => uptoBulkEntries entries + 1
  | .held _ => 1
def uptoBulkAll {H : Type} : List (DataW H) → Nat
  | [] => 0
  | d :: r => uptoBulk d + uptoBulkAll r
def uptoBulkEntries {H : Type} : List (Lit × DataW H) → Nat
  | [] => 0
  | x :: r => uptoBulkEntry x + uptoBulkEntries r
def uptoBulkEntry {H : Type} : Lit × DataW H → Nat
  | (.string bytes, d) => bytes.length + uptoBulk d + 1
  | (_, d) => uptoBulk d + 1
 end
def uptoSmall : (H : Type) → List (DataW H) → Bool := fun _ ds => decide (uptoBulkAll ds ≤ 1048576)
def OpenSpec.upto (s : _root_.Go.ChangeSpec) : _root_.Go.OpenSpec := { _root_.Go.OpenSpec.ofChange s with cond := some uptoSmall }

/-- 'laws.FnExactSpanMul', WHERE WHAT IT READS IS OF BULK AT MOST 1048576: true; the input reads as it did. -/
def fnExactSpanMulUptoRow : OpenClaim := { program := "ytfllhncilfkamaa", sum := "d3676e1b30cc03d78e273bd1d7c6e6d4b2bd59cf65c15492f11aa299843b8884", func := "loop.example/fixedmath/laws.FnExactSpanMul", spec := "fnExactSpanMul", apart := false, narrowed := true }
def FnExactSpanMulUptoSaid : Prop := fnExactSpanMulUptoRow.holds Try.pinned (OpenSpec.upto fnExactSpanMulSpec)

/-- 'laws.FnSpanMeet', WHERE WHAT IT READS IS OF BULK AT MOST 1048576: true; the input reads as it did. -/
def fnSpanMeetUptoRow : OpenClaim := { program := "ytfllhncilfkamaa", sum := "d3676e1b30cc03d78e273bd1d7c6e6d4b2bd59cf65c15492f11aa299843b8884", func := "loop.example/fixedmath/laws.FnSpanMeet", spec := "fnSpanMeet", apart := false, narrowed := true }
def FnSpanMeetUptoSaid : Prop := fnSpanMeetUptoRow.holds Try.pinned (OpenSpec.upto fnSpanMeetSpec)

/-- 'laws.FnSpanDiv', WHERE WHAT IT READS IS OF BULK AT MOST 1048576: true; the input reads as it did. -/
def fnSpanDivUptoRow : OpenClaim := { program := "ytfllhncilfkamaa", sum := "d3676e1b30cc03d78e273bd1d7c6e6d4b2bd59cf65c15492f11aa299843b8884", func := "loop.example/fixedmath/laws.FnSpanDiv", spec := "fnSpanDiv", apart := false, narrowed := true }
def FnSpanDivUptoSaid : Prop := fnSpanDivUptoRow.holds Try.pinned (OpenSpec.upto fnSpanDivSpec)

/-- 'laws.FnQuotientSpan', WHERE WHAT IT READS IS OF BULK AT MOST 1048576: true; the input reads as it did. -/
def fnQuotientSpanUptoRow : OpenClaim := { program := "ytfllhncilfkamaa", sum := "d3676e1b30cc03d78e273bd1d7c6e6d4b2bd59cf65c15492f11aa299843b8884", func := "loop.example/fixedmath/laws.FnQuotientSpan", spec := "fnQuotientSpan", apart := false, narrowed := true }
def FnQuotientSpanUptoSaid : Prop := fnQuotientSpanUptoRow.holds Try.pinned (OpenSpec.upto fnQuotientSpanSpec)

/-- 'laws.FnExactSpanSqrt', WHERE WHAT IT READS IS OF BULK AT MOST 1048576: true; the input reads as it did. -/
def fnExactSpanSqrtUptoRow : OpenClaim := { program := "ytfllhncilfkamaa", sum := "d3676e1b30cc03d78e273bd1d7c6e6d4b2bd59cf65c15492f11aa299843b8884", func := "loop.example/fixedmath/laws.FnExactSpanSqrt", spec := "fnExactSpanSqrt", apart := false, narrowed := true }
def FnExactSpanSqrtUptoSaid : Prop := fnExactSpanSqrtUptoRow.holds Try.pinned (OpenSpec.upto fnExactSpanSqrtSpec)

/-- 'laws.FnExactSpanPower', WHERE WHAT IT READS IS OF BULK AT MOST 1048576: true; the input reads as it did. -/
def fnExactSpanPowerUptoRow : OpenClaim := { program := "ytfllhncilfkamaa", sum := "d3676e1b30cc03d78e273bd1d7c6e6d4b2bd59cf65c15492f11aa299843b8884", func := "loop.example/fixedmath/laws.FnExactSpanPower", spec := "fnExactSpanPower", apart := false, narrowed := true }
def FnExactSpanPowerUptoSaid : Prop := fnExactSpanPowerUptoRow.holds Try.pinned (OpenSpec.upto fnExactSpanPowerSpec)

/-- 'laws.FnExactTwoRoot', WHERE WHAT IT READS IS OF BULK AT MOST 1048576: true; the input reads as it did. -/
def fnExactTwoRootUptoRow : OpenClaim := { program := "ytfllhncilfkamaa", sum := "d3676e1b30cc03d78e273bd1d7c6e6d4b2bd59cf65c15492f11aa299843b8884", func := "loop.example/fixedmath/laws.FnExactTwoRoot", spec := "fnExactTwoRoot", apart := false, narrowed := true }
def FnExactTwoRootUptoSaid : Prop := fnExactTwoRootUptoRow.holds Try.pinned (OpenSpec.upto fnExactTwoRootSpec)

/-- 'laws.FnSpanSqrt', WHERE WHAT IT READS IS OF BULK AT MOST 1048576: true; the input reads as it did. -/
def fnSpanSqrtUptoRow : OpenClaim := { program := "ytfllhncilfkamaa", sum := "d3676e1b30cc03d78e273bd1d7c6e6d4b2bd59cf65c15492f11aa299843b8884", func := "loop.example/fixedmath/laws.FnSpanSqrt", spec := "fnSpanSqrt", apart := false, narrowed := true }
def FnSpanSqrtUptoSaid : Prop := fnSpanSqrtUptoRow.holds Try.pinned (OpenSpec.upto fnSpanSqrtSpec)

/-- 'laws.FnTwoRoot', WHERE WHAT IT READS IS OF BULK AT MOST 1048576: true; the input reads as it did. -/
def fnTwoRootUptoRow : OpenClaim := { program := "ytfllhncilfkamaa", sum := "d3676e1b30cc03d78e273bd1d7c6e6d4b2bd59cf65c15492f11aa299843b8884", func := "loop.example/fixedmath/laws.FnTwoRoot", spec := "fnTwoRoot", apart := false, narrowed := true }
def FnTwoRootUptoSaid : Prop := fnTwoRootUptoRow.holds Try.pinned (OpenSpec.upto fnTwoRootSpec)

/-- 'laws.FnSquareSpan', WHERE WHAT IT READS IS OF BULK AT MOST 1048576: true; the input reads as it did. -/
def fnSquareSpanUptoRow : OpenClaim := { program := "ytfllhncilfkamaa", sum := "d3676e1b30cc03d78e273bd1d7c6e6d4b2bd59cf65c15492f11aa299843b8884", func := "loop.example/fixedmath/laws.FnSquareSpan", spec := "fnSquareSpan", apart := false, narrowed := true }
def FnSquareSpanUptoSaid : Prop := fnSquareSpanUptoRow.holds Try.pinned (OpenSpec.upto fnSquareSpanSpec)

/-- 'laws.FnSpanPower', WHERE WHAT IT READS IS OF BULK AT MOST 1048576: true; the input reads as it did. -/
def fnSpanPowerUptoRow : OpenClaim := { program := "ytfllhncilfkamaa", sum := "d3676e1b30cc03d78e273bd1d7c6e6d4b2bd59cf65c15492f11aa299843b8884", func := "loop.example/fixedmath/laws.FnSpanPower", spec := "fnSpanPower", apart := false, narrowed := true }
def FnSpanPowerUptoSaid : Prop := fnSpanPowerUptoRow.holds Try.pinned (OpenSpec.upto fnSpanPowerSpec)

/-- 'laws.FnExactTwoPower', WHERE WHAT IT READS IS OF BULK AT MOST 1048576: true; the input reads as it did. -/
def fnExactTwoPowerUptoRow : OpenClaim := { program := "ytfllhncilfkamaa", sum := "d3676e1b30cc03d78e273bd1d7c6e6d4b2bd59cf65c15492f11aa299843b8884", func := "loop.example/fixedmath/laws.FnExactTwoPower", spec := "fnExactTwoPower", apart := false, narrowed := true }
def FnExactTwoPowerUptoSaid : Prop := fnExactTwoPowerUptoRow.holds Try.pinned (OpenSpec.upto fnExactTwoPowerSpec)

/-- 'laws.FnTwoPower', WHERE WHAT IT READS IS OF BULK AT MOST 1048576: true; the input reads as it did. -/
def fnTwoPowerUptoRow : OpenClaim := { program := "ytfllhncilfkamaa", sum := "d3676e1b30cc03d78e273bd1d7c6e6d4b2bd59cf65c15492f11aa299843b8884", func := "loop.example/fixedmath/laws.FnTwoPower", spec := "fnTwoPower", apart := false, narrowed := true }
def FnTwoPowerUptoSaid : Prop := fnTwoPowerUptoRow.holds Try.pinned (OpenSpec.upto fnTwoPowerSpec)

/-- 'laws.FnPowerSum', WHERE WHAT IT READS IS OF BULK AT MOST 1048576: true; the input reads as it did. -/
def fnPowerSumUptoRow : OpenClaim := { program := "ytfllhncilfkamaa", sum := "d3676e1b30cc03d78e273bd1d7c6e6d4b2bd59cf65c15492f11aa299843b8884", func := "loop.example/fixedmath/laws.FnPowerSum", spec := "fnPowerSum", apart := false, narrowed := true }
def FnPowerSumUptoSaid : Prop := fnPowerSumUptoRow.holds Try.pinned (OpenSpec.upto fnPowerSumSpec)

/-- 'laws.FnExactPowerStored', WHERE WHAT IT READS IS OF BULK AT MOST 1048576: true; the input reads as it did. -/
def fnExactPowerStoredUptoRow : OpenClaim := { program := "ytfllhncilfkamaa", sum := "d3676e1b30cc03d78e273bd1d7c6e6d4b2bd59cf65c15492f11aa299843b8884", func := "loop.example/fixedmath/laws.FnExactPowerStored", spec := "fnExactPowerStored", apart := false, narrowed := true }
def FnExactPowerStoredUptoSaid : Prop := fnExactPowerStoredUptoRow.holds Try.pinned (OpenSpec.upto fnExactPowerStoredSpec)

/-- 'laws.FnPowerStored', WHERE WHAT IT READS IS OF BULK AT MOST 1048576: true; the input reads as it did. -/
def fnPowerStoredUptoRow : OpenClaim := { program := "ytfllhncilfkamaa", sum := "d3676e1b30cc03d78e273bd1d7c6e6d4b2bd59cf65c15492f11aa299843b8884", func := "loop.example/fixedmath/laws.FnPowerStored", spec := "fnPowerStored", apart := false, narrowed := true }
def FnPowerStoredUptoSaid : Prop := fnPowerStoredUptoRow.holds Try.pinned (OpenSpec.upto fnPowerStoredSpec)

end Rows
end Go.Proofs.Ytfllhncilfkamaa
