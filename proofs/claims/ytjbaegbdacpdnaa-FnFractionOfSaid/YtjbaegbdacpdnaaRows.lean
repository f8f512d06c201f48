/-
  No cell of these rows narrows 'for every input' (looked for: loops, veiled, ifaces, maps, wideKeys, modest, calm, conditions, laid).
  DERIVED. THE GIVEN ROWS OF THIS SEAT. 19 by the template 'for every input the law returns true; each argument reads behind the call as it read before'; 0 by the template 'total and deterministic' (their statements: YtjbaegbdacpdnaaTotals.lean).
  GIVEN WITH THE SEED: the statements are not yours to turn. If you find one false, say at which input.
  Laid BY PROGRAM, IN A SANDBOX (cutbox-rows.mjs): the forced cells as the released guide's own fill.sh prints them over the translation 2d3d18b14fbd1de4… (all of the seat's roots in one cut). By AI agents, Wed Nov 11 2026. No macro, syntax, notation, axiom, sorry.
-/
import Derived.Test.YtjbaegbdacpdnaaChecked
import GoSem.Claim
import GoSem.ClaimJoined
import GoSem.ClaimMapViews
import Derived.JoinedTies
import Derived.KernelRfl
namespace Go.Proofs.Ytjbaegbdacpdnaa
/- THE CELL 'sum', in the pinned program and in every row, IS THE sha256 OF THE DUMP (.gsa) THAT YtjbaegbdacpdnaaProg.lean LOADS. Nothing in Lean hashes anything: it is a label: what it is worth is what the hold of that sum in a sandbox is worth. -/
noncomputable def Try.pinned : Pinned := { name := "ytjbaegbdacpdnaa", sum := "2d3d18b14fbd1de4e26f2521e7578d720f7fe941651c12e6dc6d2c46a4d25165", checked := Try.checked }
namespace Rows
def none {H : Type} : Left H := { results := [], args := [] }

/-- 'laws.FnWrapAngle': WHATEVER THE INPUT: true; the input reads as it did. -/
def fnWrapAngleSpec : ChangeSpec := { name := "fnWrapAngle", fn := fun _ => fun
  | [d] => { results := [.lit (.bool true)], args := [d] }
  | _ => none }
def fnWrapAngleRow : OpenClaim := { program := "ytjbaegbdacpdnaa", sum := "2d3d18b14fbd1de4e26f2521e7578d720f7fe941651c12e6dc6d2c46a4d25165", func := "loop.example/fixedmath/laws.FnWrapAngle", spec := "fnWrapAngle", apart := false }
def FnWrapAngleSaid : Prop := fnWrapAngleRow.holds Try.pinned (OpenSpec.ofChange fnWrapAngleSpec)

/-- ITS FALSE NEIGHBOUR: 'it returns false'. Refute it at one input. -/
def fnWrapAngleWrong : ChangeSpec := { name := "fnWrapAngle", fn := fun _ => fun
  | [d] => { results := [.lit (.bool false)], args := [d] }
  | _ => none }
def FnWrapAngleWrongFalsely : Prop := fnWrapAngleRow.holds Try.pinned (OpenSpec.ofChange fnWrapAngleWrong)

/-- 'laws.FnExactFractionOf': WHATEVER THE INPUT: true; the input reads as it did. -/
def fnExactFractionOfSpec : ChangeSpec := { name := "fnExactFractionOf", fn := fun _ => fun
  | [d1, d2, d3] => { results := [.lit (.bool true)], args := [d1, d2, d3] }
  | _ => none }
def fnExactFractionOfRow : OpenClaim := { program := "ytjbaegbdacpdnaa", sum := "2d3d18b14fbd1de4e26f2521e7578d720f7fe941651c12e6dc6d2c46a4d25165", func := "loop.example/fixedmath/laws.FnExactFractionOf", spec := "fnExactFractionOf", apart := false }
def FnExactFractionOfSaid : Prop := fnExactFractionOfRow.holds Try.pinned (OpenSpec.ofChange fnExactFractionOfSpec)

/-- ITS FALSE NEIGHBOUR: 'it returns false'. Refute it at one input. -/
def fnExactFractionOfWrong : ChangeSpec := { name := "fnExactFractionOf", fn := fun _ => fun
  | [d1, d2, d3] => { results := [.lit (.bool false)], args := [d1, d2, d3] }
  | _ => none }
def FnExactFractionOfWrongFalsely : Prop := fnExactFractionOfRow.holds Try.pinned (OpenSpec.ofChange fnExactFractionOfWrong)

/-- 'laws.FnExactToFormat': WHATEVER THE INPUT: true; the input reads as it did. -/
def fnExactToFormatSpec : ChangeSpec := { name := "fnExactToFormat", fn := fun _ => fun
  | [d1, d2, d3] => { results := [.lit (.bool true)], args := [d1, d2, d3] }
  | _ => none }
def fnExactToFormatRow : OpenClaim := { program := "ytjbaegbdacpdnaa", sum := "2d3d18b14fbd1de4e26f2521e7578d720f7fe941651c12e6dc6d2c46a4d25165", func := "loop.example/fixedmath/laws.FnExactToFormat", spec := "fnExactToFormat", apart := false }
def FnExactToFormatSaid : Prop := fnExactToFormatRow.holds Try.pinned (OpenSpec.ofChange fnExactToFormatSpec)

/-- ITS FALSE NEIGHBOUR: 'it returns false'. Refute it at one input. -/
def fnExactToFormatWrong : ChangeSpec := { name := "fnExactToFormat", fn := fun _ => fun
  | [d1, d2, d3] => { results := [.lit (.bool false)], args := [d1, d2, d3] }
  | _ => none }
def FnExactToFormatWrongFalsely : Prop := fnExactToFormatRow.holds Try.pinned (OpenSpec.ofChange fnExactToFormatWrong)

/-- 'laws.FnExactMulStored': WHATEVER THE INPUT: true; the input reads as it did. -/
def fnExactMulStoredSpec : ChangeSpec := { name := "fnExactMulStored", fn := fun _ => fun
  | [d1, d2, d3] => { results := [.lit (.bool true)], args := [d1, d2, d3] }
  | _ => none }
def fnExactMulStoredRow : OpenClaim := { program := "ytjbaegbdacpdnaa", sum := "2d3d18b14fbd1de4e26f2521e7578d720f7fe941651c12e6dc6d2c46a4d25165", func := "loop.example/fixedmath/laws.FnExactMulStored", spec := "fnExactMulStored", unfollowed := true, recurses := true, apart := false }
def FnExactMulStoredSaid : Prop := fnExactMulStoredRow.holds Try.pinned (OpenSpec.ofChange fnExactMulStoredSpec)

/-- ITS FALSE NEIGHBOUR: 'it returns false'. Refute it at one input. -/
def fnExactMulStoredWrong : ChangeSpec := { name := "fnExactMulStored", fn := fun _ => fun
  | [d1, d2, d3] => { results := [.lit (.bool false)], args := [d1, d2, d3] }
  | _ => none }
def FnExactMulStoredWrongFalsely : Prop := fnExactMulStoredRow.holds Try.pinned (OpenSpec.ofChange fnExactMulStoredWrong)

/-- 'laws.FnFloorShift': WHATEVER THE INPUT: true; the input reads as it did. -/
def fnFloorShiftSpec : ChangeSpec := { name := "fnFloorShift", fn := fun _ => fun
  | [d] => { results := [.lit (.bool true)], args := [d] }
  | _ => none }
def fnFloorShiftRow : OpenClaim := { program := "ytjbaegbdacpdnaa", sum := "2d3d18b14fbd1de4e26f2521e7578d720f7fe941651c12e6dc6d2c46a4d25165", func := "loop.example/fixedmath/laws.FnFloorShift", spec := "fnFloorShift", apart := false }
def FnFloorShiftSaid : Prop := fnFloorShiftRow.holds Try.pinned (OpenSpec.ofChange fnFloorShiftSpec)

/-- ITS FALSE NEIGHBOUR: 'it returns false'. Refute it at one input. -/
def fnFloorShiftWrong : ChangeSpec := { name := "fnFloorShift", fn := fun _ => fun
  | [d] => { results := [.lit (.bool false)], args := [d] }
  | _ => none }
def FnFloorShiftWrongFalsely : Prop := fnFloorShiftRow.holds Try.pinned (OpenSpec.ofChange fnFloorShiftWrong)

/-- 'laws.FnFloorDiv': WHATEVER THE INPUT: true; the input reads as it did. -/
def fnFloorDivSpec : ChangeSpec := { name := "fnFloorDiv", fn := fun _ => fun
  | [d] => { results := [.lit (.bool true)], args := [d] }
  | _ => none }
def fnFloorDivRow : OpenClaim := { program := "ytjbaegbdacpdnaa", sum := "2d3d18b14fbd1de4e26f2521e7578d720f7fe941651c12e6dc6d2c46a4d25165", func := "loop.example/fixedmath/laws.FnFloorDiv", spec := "fnFloorDiv", apart := false }
def FnFloorDivSaid : Prop := fnFloorDivRow.holds Try.pinned (OpenSpec.ofChange fnFloorDivSpec)

/-- ITS FALSE NEIGHBOUR: 'it returns false'. Refute it at one input. -/
def fnFloorDivWrong : ChangeSpec := { name := "fnFloorDiv", fn := fun _ => fun
  | [d] => { results := [.lit (.bool false)], args := [d] }
  | _ => none }
def FnFloorDivWrongFalsely : Prop := fnFloorDivRow.holds Try.pinned (OpenSpec.ofChange fnFloorDivWrong)

/-- 'laws.FnDivPair': WHATEVER THE INPUT: true; the input reads as it did. -/
def fnDivPairSpec : ChangeSpec := { name := "fnDivPair", fn := fun _ => fun
  | [d] => { results := [.lit (.bool true)], args := [d] }
  | _ => none }
def fnDivPairRow : OpenClaim := { program := "ytjbaegbdacpdnaa", sum := "2d3d18b14fbd1de4e26f2521e7578d720f7fe941651c12e6dc6d2c46a4d25165", func := "loop.example/fixedmath/laws.FnDivPair", spec := "fnDivPair", apart := false }
def FnDivPairSaid : Prop := fnDivPairRow.holds Try.pinned (OpenSpec.ofChange fnDivPairSpec)

/-- ITS FALSE NEIGHBOUR: 'it returns false'. Refute it at one input. -/
def fnDivPairWrong : ChangeSpec := { name := "fnDivPair", fn := fun _ => fun
  | [d] => { results := [.lit (.bool false)], args := [d] }
  | _ => none }
def FnDivPairWrongFalsely : Prop := fnDivPairRow.holds Try.pinned (OpenSpec.ofChange fnDivPairWrong)

/-- 'laws.FnExactDivStored': WHATEVER THE INPUT: true; the input reads as it did. -/
def fnExactDivStoredSpec : ChangeSpec := { name := "fnExactDivStored", fn := fun _ => fun
  | [d1, d2, d3] => { results := [.lit (.bool true)], args := [d1, d2, d3] }
  | _ => none }
def fnExactDivStoredRow : OpenClaim := { program := "ytjbaegbdacpdnaa", sum := "2d3d18b14fbd1de4e26f2521e7578d720f7fe941651c12e6dc6d2c46a4d25165", func := "loop.example/fixedmath/laws.FnExactDivStored", spec := "fnExactDivStored", unfollowed := true, recurses := true, apart := false }
def FnExactDivStoredSaid : Prop := fnExactDivStoredRow.holds Try.pinned (OpenSpec.ofChange fnExactDivStoredSpec)

/-- ITS FALSE NEIGHBOUR: 'it returns false'. Refute it at one input. -/
def fnExactDivStoredWrong : ChangeSpec := { name := "fnExactDivStored", fn := fun _ => fun
  | [d1, d2, d3] => { results := [.lit (.bool false)], args := [d1, d2, d3] }
  | _ => none }
def FnExactDivStoredWrongFalsely : Prop := fnExactDivStoredRow.holds Try.pinned (OpenSpec.ofChange fnExactDivStoredWrong)

/-- 'laws.FnRoundShift': WHATEVER THE INPUT: true; the input reads as it did. -/
def fnRoundShiftSpec : ChangeSpec := { name := "fnRoundShift", fn := fun _ => fun
  | [d] => { results := [.lit (.bool true)], args := [d] }
  | _ => none }
def fnRoundShiftRow : OpenClaim := { program := "ytjbaegbdacpdnaa", sum := "2d3d18b14fbd1de4e26f2521e7578d720f7fe941651c12e6dc6d2c46a4d25165", func := "loop.example/fixedmath/laws.FnRoundShift", spec := "fnRoundShift", apart := false }
def FnRoundShiftSaid : Prop := fnRoundShiftRow.holds Try.pinned (OpenSpec.ofChange fnRoundShiftSpec)

/-- ITS FALSE NEIGHBOUR: 'it returns false'. Refute it at one input. -/
def fnRoundShiftWrong : ChangeSpec := { name := "fnRoundShift", fn := fun _ => fun
  | [d] => { results := [.lit (.bool false)], args := [d] }
  | _ => none }
def FnRoundShiftWrongFalsely : Prop := fnRoundShiftRow.holds Try.pinned (OpenSpec.ofChange fnRoundShiftWrong)

/-- 'laws.FnRoundDiv': WHATEVER THE INPUT: true; the input reads as it did. -/
def fnRoundDivSpec : ChangeSpec := { name := "fnRoundDiv", fn := fun _ => fun
  | [d] => { results := [.lit (.bool true)], args := [d] }
  | _ => none }
def fnRoundDivRow : OpenClaim := { program := "ytjbaegbdacpdnaa", sum := "2d3d18b14fbd1de4e26f2521e7578d720f7fe941651c12e6dc6d2c46a4d25165", func := "loop.example/fixedmath/laws.FnRoundDiv", spec := "fnRoundDiv", apart := false }
def FnRoundDivSaid : Prop := fnRoundDivRow.holds Try.pinned (OpenSpec.ofChange fnRoundDivSpec)

/-- ITS FALSE NEIGHBOUR: 'it returns false'. Refute it at one input. -/
def fnRoundDivWrong : ChangeSpec := { name := "fnRoundDiv", fn := fun _ => fun
  | [d] => { results := [.lit (.bool false)], args := [d] }
  | _ => none }
def FnRoundDivWrongFalsely : Prop := fnRoundDivRow.holds Try.pinned (OpenSpec.ofChange fnRoundDivWrong)

/-- 'laws.FnFractionOf': WHATEVER THE INPUT: true; the input reads as it did. -/
def fnFractionOfSpec : ChangeSpec := { name := "fnFractionOf", fn := fun _ => fun
  | [d] => { results := [.lit (.bool true)], args := [d] }
  | _ => none }
def fnFractionOfRow : OpenClaim := { program := "ytjbaegbdacpdnaa", sum := "2d3d18b14fbd1de4e26f2521e7578d720f7fe941651c12e6dc6d2c46a4d25165", func := "loop.example/fixedmath/laws.FnFractionOf", spec := "fnFractionOf", apart := false }
def FnFractionOfSaid : Prop := fnFractionOfRow.holds Try.pinned (OpenSpec.ofChange fnFractionOfSpec)

/-- ITS FALSE NEIGHBOUR: 'it returns false'. Refute it at one input. -/
def fnFractionOfWrong : ChangeSpec := { name := "fnFractionOf", fn := fun _ => fun
  | [d] => { results := [.lit (.bool false)], args := [d] }
  | _ => none }
def FnFractionOfWrongFalsely : Prop := fnFractionOfRow.holds Try.pinned (OpenSpec.ofChange fnFractionOfWrong)

/-- 'laws.FnOneOf': WHATEVER THE INPUT: true; the input reads as it did. -/
def fnOneOfSpec : ChangeSpec := { name := "fnOneOf", fn := fun _ => fun
  | [d] => { results := [.lit (.bool true)], args := [d] }
  | _ => none }
def fnOneOfRow : OpenClaim := { program := "ytjbaegbdacpdnaa", sum := "2d3d18b14fbd1de4e26f2521e7578d720f7fe941651c12e6dc6d2c46a4d25165", func := "loop.example/fixedmath/laws.FnOneOf", spec := "fnOneOf", unfollowed := true, recurses := true, apart := false }
def FnOneOfSaid : Prop := fnOneOfRow.holds Try.pinned (OpenSpec.ofChange fnOneOfSpec)

/-- ITS FALSE NEIGHBOUR: 'it returns false'. Refute it at one input. -/
def fnOneOfWrong : ChangeSpec := { name := "fnOneOf", fn := fun _ => fun
  | [d] => { results := [.lit (.bool false)], args := [d] }
  | _ => none }
def FnOneOfWrongFalsely : Prop := fnOneOfRow.holds Try.pinned (OpenSpec.ofChange fnOneOfWrong)

/-- 'laws.FnWholeOf': WHATEVER THE INPUT: true; the input reads as it did. -/
def fnWholeOfSpec : ChangeSpec := { name := "fnWholeOf", fn := fun _ => fun
  | [d] => { results := [.lit (.bool true)], args := [d] }
  | _ => none }
def fnWholeOfRow : OpenClaim := { program := "ytjbaegbdacpdnaa", sum := "2d3d18b14fbd1de4e26f2521e7578d720f7fe941651c12e6dc6d2c46a4d25165", func := "loop.example/fixedmath/laws.FnWholeOf", spec := "fnWholeOf", apart := false }
def FnWholeOfSaid : Prop := fnWholeOfRow.holds Try.pinned (OpenSpec.ofChange fnWholeOfSpec)

/-- ITS FALSE NEIGHBOUR: 'it returns false'. Refute it at one input. -/
def fnWholeOfWrong : ChangeSpec := { name := "fnWholeOf", fn := fun _ => fun
  | [d] => { results := [.lit (.bool false)], args := [d] }
  | _ => none }
def FnWholeOfWrongFalsely : Prop := fnWholeOfRow.holds Try.pinned (OpenSpec.ofChange fnWholeOfWrong)

/-- 'laws.FnToFormat': WHATEVER THE INPUT: true; the input reads as it did. -/
def fnToFormatSpec : ChangeSpec := { name := "fnToFormat", fn := fun _ => fun
  | [d] => { results := [.lit (.bool true)], args := [d] }
  | _ => none }
def fnToFormatRow : OpenClaim := { program := "ytjbaegbdacpdnaa", sum := "2d3d18b14fbd1de4e26f2521e7578d720f7fe941651c12e6dc6d2c46a4d25165", func := "loop.example/fixedmath/laws.FnToFormat", spec := "fnToFormat", apart := false }
def FnToFormatSaid : Prop := fnToFormatRow.holds Try.pinned (OpenSpec.ofChange fnToFormatSpec)

/-- ITS FALSE NEIGHBOUR: 'it returns false'. Refute it at one input. -/
def fnToFormatWrong : ChangeSpec := { name := "fnToFormat", fn := fun _ => fun
  | [d] => { results := [.lit (.bool false)], args := [d] }
  | _ => none }
def FnToFormatWrongFalsely : Prop := fnToFormatRow.holds Try.pinned (OpenSpec.ofChange fnToFormatWrong)

/-- 'laws.FnMulStored': WHATEVER THE INPUT: true; the input reads as it did. -/
def fnMulStoredSpec : ChangeSpec := { name := "fnMulStored", fn := fun _ => fun
  | [d] => { results := [.lit (.bool true)], args := [d] }
  | _ => none }
def fnMulStoredRow : OpenClaim := { program := "ytjbaegbdacpdnaa", sum := "2d3d18b14fbd1de4e26f2521e7578d720f7fe941651c12e6dc6d2c46a4d25165", func := "loop.example/fixedmath/laws.FnMulStored", spec := "fnMulStored", unfollowed := true, recurses := true, apart := false }
def FnMulStoredSaid : Prop := fnMulStoredRow.holds Try.pinned (OpenSpec.ofChange fnMulStoredSpec)

/-- ITS FALSE NEIGHBOUR: 'it returns false'. Refute it at one input. -/
def fnMulStoredWrong : ChangeSpec := { name := "fnMulStored", fn := fun _ => fun
  | [d] => { results := [.lit (.bool false)], args := [d] }
  | _ => none }
def FnMulStoredWrongFalsely : Prop := fnMulStoredRow.holds Try.pinned (OpenSpec.ofChange fnMulStoredWrong)

/-- 'laws.FnFormatChain': WHATEVER THE INPUT: true; the input reads as it did. -/
def fnFormatChainSpec : ChangeSpec := { name := "fnFormatChain", fn := fun _ => fun
  | [d1, d2] => { results := [.lit (.bool true)], args := [d1, d2] }
  | _ => none }
def fnFormatChainRow : OpenClaim := { program := "ytjbaegbdacpdnaa", sum := "2d3d18b14fbd1de4e26f2521e7578d720f7fe941651c12e6dc6d2c46a4d25165", func := "loop.example/fixedmath/laws.FnFormatChain", spec := "fnFormatChain", apart := false }
def FnFormatChainSaid : Prop := fnFormatChainRow.holds Try.pinned (OpenSpec.ofChange fnFormatChainSpec)

/-- ITS FALSE NEIGHBOUR: 'it returns false'. Refute it at one input. -/
def fnFormatChainWrong : ChangeSpec := { name := "fnFormatChain", fn := fun _ => fun
  | [d1, d2] => { results := [.lit (.bool false)], args := [d1, d2] }
  | _ => none }
def FnFormatChainWrongFalsely : Prop := fnFormatChainRow.holds Try.pinned (OpenSpec.ofChange fnFormatChainWrong)

/-- 'laws.FnSquareRoot': WHATEVER THE INPUT: true; the input reads as it did. -/
def fnSquareRootSpec : ChangeSpec := { name := "fnSquareRoot", fn := fun _ => fun
  | [d] => { results := [.lit (.bool true)], args := [d] }
  | _ => none }
def fnSquareRootRow : OpenClaim := { program := "ytjbaegbdacpdnaa", sum := "2d3d18b14fbd1de4e26f2521e7578d720f7fe941651c12e6dc6d2c46a4d25165", func := "loop.example/fixedmath/laws.FnSquareRoot", spec := "fnSquareRoot", unfollowed := true, recurses := true, apart := false }
def FnSquareRootSaid : Prop := fnSquareRootRow.holds Try.pinned (OpenSpec.ofChange fnSquareRootSpec)

/-- ITS FALSE NEIGHBOUR: 'it returns false'. Refute it at one input. -/
def fnSquareRootWrong : ChangeSpec := { name := "fnSquareRoot", fn := fun _ => fun
  | [d] => { results := [.lit (.bool false)], args := [d] }
  | _ => none }
def FnSquareRootWrongFalsely : Prop := fnSquareRootRow.holds Try.pinned (OpenSpec.ofChange fnSquareRootWrong)

/-- 'laws.FnFractionMul': WHATEVER THE INPUT: true; the input reads as it did. -/
def fnFractionMulSpec : ChangeSpec := { name := "fnFractionMul", fn := fun _ => fun
  | [d] => { results := [.lit (.bool true)], args := [d] }
  | _ => none }
def fnFractionMulRow : OpenClaim := { program := "ytjbaegbdacpdnaa", sum := "2d3d18b14fbd1de4e26f2521e7578d720f7fe941651c12e6dc6d2c46a4d25165", func := "loop.example/fixedmath/laws.FnFractionMul", spec := "fnFractionMul", apart := false }
def FnFractionMulSaid : Prop := fnFractionMulRow.holds Try.pinned (OpenSpec.ofChange fnFractionMulSpec)

/-- ITS FALSE NEIGHBOUR: 'it returns false'. Refute it at one input. -/
def fnFractionMulWrong : ChangeSpec := { name := "fnFractionMul", fn := fun _ => fun
  | [d] => { results := [.lit (.bool false)], args := [d] }
  | _ => none }
def FnFractionMulWrongFalsely : Prop := fnFractionMulRow.holds Try.pinned (OpenSpec.ofChange fnFractionMulWrong)

/-- 'laws.FnDivStored': WHATEVER THE INPUT: true; the input reads as it did. -/
def fnDivStoredSpec : ChangeSpec := { name := "fnDivStored", fn := fun _ => fun
  | [d] => { results := [.lit (.bool true)], args := [d] }
  | _ => none }
def fnDivStoredRow : OpenClaim := { program := "ytjbaegbdacpdnaa", sum := "2d3d18b14fbd1de4e26f2521e7578d720f7fe941651c12e6dc6d2c46a4d25165", func := "loop.example/fixedmath/laws.FnDivStored", spec := "fnDivStored", unfollowed := true, recurses := true, apart := false }
def FnDivStoredSaid : Prop := fnDivStoredRow.holds Try.pinned (OpenSpec.ofChange fnDivStoredSpec)

/-- ITS FALSE NEIGHBOUR: 'it returns false'. Refute it at one input. -/
def fnDivStoredWrong : ChangeSpec := { name := "fnDivStored", fn := fun _ => fun
  | [d] => { results := [.lit (.bool false)], args := [d] }
  | _ => none }
def FnDivStoredWrongFalsely : Prop := fnDivStoredRow.holds Try.pinned (OpenSpec.ofChange fnDivStoredWrong)

/- THE SECOND FORM. 'bulk': how many values and letters a reading holds, each counted each time it is reached (what is shared counts as often as it is met; a slice's spare places count too). A statement '..UptoSaid' is the law's where the arguments, and the package variables that the reading takes, are together of bulk at most 1048576: NARROWER than '..Said'. Prove '..Said' where nothing that the law and all that it calls make is longer than what came in: it says more and counts as full. Else prove '..UptoSaid'. A law counts once. -/
mutual
def uptoBulk {H : Type} : DataW H → Nat
  | .lit (.string bytes) => bytes.length + 1
  | .lit _ => 1
  | .nil => 1
  | .ptr d => uptoBulk d + 1
  | .slice elems spare => uptoBulkAll elems + uptoBulkAll spare + 1
  | .agg parts => uptoBulkAll parts + 1
  | .iface _ d => uptoBulk d + 1
  | .map entries => uptoBulkEntries entries + 1
  | .held _ => 1
def uptoBulkAll {H : Type} : List (DataW H) → Nat
  | [] => 0
  | d :: r => uptoBulk d + uptoBulkAll r
def uptoBulkEntries {H : Type} : List (Lit × DataW H) → Nat
  | [] => 0
  | x :: r => uptoBulkEntry x + uptoBulkEntries r
def uptoBulkEntry {H : Type} : Lit × DataW H → Nat
  | (.string bytes, d) => bytes.length + uptoBulk d + 1
  | (_, d) => uptoBulk d + 1
 end
def uptoSmall : (H : Type) → List (DataW H) → Bool := fun _ ds => decide (uptoBulkAll ds ≤ 1048576)
def OpenSpec.upto (s : _root_.Go.ChangeSpec) : _root_.Go.OpenSpec := { _root_.Go.OpenSpec.ofChange s with cond := some uptoSmall }

/-- 'laws.FnWrapAngle', WHERE WHAT IT READS IS OF BULK AT MOST 1048576: true; the input reads as it did. -/
def fnWrapAngleUptoRow : OpenClaim := { program := "ytjbaegbdacpdnaa", sum := "2d3d18b14fbd1de4e26f2521e7578d720f7fe941651c12e6dc6d2c46a4d25165", func := "loop.example/fixedmath/laws.FnWrapAngle", spec := "fnWrapAngle", apart := false, narrowed := true }
def FnWrapAngleUptoSaid : Prop := fnWrapAngleUptoRow.holds Try.pinned (OpenSpec.upto fnWrapAngleSpec)

/-- 'laws.FnExactFractionOf', WHERE WHAT IT READS IS OF BULK AT MOST 1048576: true; the input reads as it did. -/
def fnExactFractionOfUptoRow : OpenClaim := { program := "ytjbaegbdacpdnaa", sum := "2d3d18b14fbd1de4e26f2521e7578d720f7fe941651c12e6dc6d2c46a4d25165", func := "loop.example/fixedmath/laws.FnExactFractionOf", spec := "fnExactFractionOf", apart := false, narrowed := true }
def FnExactFractionOfUptoSaid : Prop := fnExactFractionOfUptoRow.holds Try.pinned (OpenSpec.upto fnExactFractionOfSpec)

/-- 'laws.FnExactToFormat', WHERE WHAT IT READS IS OF BULK AT MOST 1048576: true; the input reads as it did. -/
def fnExactToFormatUptoRow : OpenClaim := { program := "ytjbaegbdacpdnaa", sum := "2d3d18b14fbd1de4e26f2521e7578d720f7fe941651c12e6dc6d2c46a4d25165", func := "loop.example/fixedmath/laws.FnExactToFormat", spec := "fnExactToFormat", apart := false, narrowed := true }
def FnExactToFormatUptoSaid : Prop := fnExactToFormatUptoRow.holds Try.pinned (OpenSpec.upto fnExactToFormatSpec)

/-- 'laws.FnExactMulStored', WHERE WHAT IT READS IS OF BULK AT MOST 1048576: true; the input reads as it did. -/
def fnExactMulStoredUptoRow : OpenClaim := { program := "ytjbaegbdacpdnaa", sum := "2d3d18b14fbd1de4e26f2521e7578d720f7fe941651c12e6dc6d2c46a4d25165", func := "loop.example/fixedmath/laws.FnExactMulStored", spec := "fnExactMulStored", unfollowed := true, recurses := true, apart := false, narrowed := true }
def FnExactMulStoredUptoSaid : Prop := fnExactMulStoredUptoRow.holds Try.pinned (OpenSpec.upto fnExactMulStoredSpec)

/-- 'laws.FnFloorShift', WHERE WHAT IT READS IS OF BULK AT MOST 1048576: true; the input reads as it did. -/
def fnFloorShiftUptoRow : OpenClaim := { program := "ytjbaegbdacpdnaa", sum := "2d3d18b14fbd1de4e26f2521e7578d720f7fe941651c12e6dc6d2c46a4d25165", func := "loop.example/fixedmath/laws.FnFloorShift", spec := "fnFloorShift", apart := false, narrowed := true }
def FnFloorShiftUptoSaid : Prop := fnFloorShiftUptoRow.holds Try.pinned (OpenSpec.upto fnFloorShiftSpec)

/-- 'laws.FnFloorDiv', WHERE WHAT IT READS IS OF BULK AT MOST 1048576: true; the input reads as it did. -/
def fnFloorDivUptoRow : OpenClaim := { program := "ytjbaegbdacpdnaa", sum := "2d3d18b14fbd1de4e26f2521e7578d720f7fe941651c12e6dc6d2c46a4d25165", func := "loop.example/fixedmath/laws.FnFloorDiv", spec := "fnFloorDiv", apart := false, narrowed := true }
def FnFloorDivUptoSaid : Prop := fnFloorDivUptoRow.holds Try.pinned (OpenSpec.upto fnFloorDivSpec)

/-- 'laws.FnDivPair', WHERE WHAT IT READS IS OF BULK AT MOST 1048576: true; the input reads as it did. -/
def fnDivPairUptoRow : OpenClaim := { program := "ytjbaegbdacpdnaa", sum := "2d3d18b14fbd1de4e26f2521e7578d720f7fe941651c12e6dc6d2c46a4d25165", func := "loop.example/fixedmath/laws.FnDivPair", spec := "fnDivPair", apart := false, narrowed := true }
def FnDivPairUptoSaid : Prop := fnDivPairUptoRow.holds Try.pinned (OpenSpec.upto fnDivPairSpec)

/-- 'laws.FnExactDivStored', WHERE WHAT IT READS IS OF BULK AT MOST 1048576: true; the input reads as it did. -/
def fnExactDivStoredUptoRow : OpenClaim := { program := "ytjbaegbdacpdnaa", sum := "2d3d18b14fbd1de4e26f2521e7578d720f7fe941651c12e6dc6d2c46a4d25165", func := "loop.example/fixedmath/laws.FnExactDivStored", spec := "fnExactDivStored", unfollowed := true, recurses := true, apart := false, narrowed := true }
def FnExactDivStoredUptoSaid : Prop := fnExactDivStoredUptoRow.holds Try.pinned (OpenSpec.upto fnExactDivStoredSpec)

/-- 'laws.FnRoundShift', WHERE WHAT IT READS IS OF BULK AT MOST 1048576: true; the input reads as it did. -/
def fnRoundShiftUptoRow : OpenClaim := { program := "ytjbaegbdacpdnaa", sum := "2d3d18b14fbd1de4e26f2521e7578d720f7fe941651c12e6dc6d2c46a4d25165", func := "loop.example/fixedmath/laws.FnRoundShift", spec := "fnRoundShift", apart := false, narrowed := true }
def FnRoundShiftUptoSaid : Prop := fnRoundShiftUptoRow.holds Try.pinned (OpenSpec.upto fnRoundShiftSpec)

/-- 'laws.FnRoundDiv', WHERE WHAT IT READS IS OF BULK AT MOST 1048576: true; the input reads as it did. -/
def fnRoundDivUptoRow : OpenClaim := { program := "ytjbaegbdacpdnaa", sum := "2d3d18b14fbd1de4e26f2521e7578d720f7fe941651c12e6dc6d2c46a4d25165", func := "loop.example/fixedmath/laws.FnRoundDiv", spec := "fnRoundDiv", apart := false, narrowed := true }
def FnRoundDivUptoSaid : Prop := fnRoundDivUptoRow.holds Try.pinned (OpenSpec.upto fnRoundDivSpec)

/-- 'laws.FnFractionOf', WHERE WHAT IT READS IS OF BULK AT MOST 1048576: true; the input reads as it did. -/
def fnFractionOfUptoRow : OpenClaim := { program := "ytjbaegbdacpdnaa", sum := "2d3d18b14fbd1de4e26f2521e7578d720f7fe941651c12e6dc6d2c46a4d25165", func := "loop.example/fixedmath/laws.FnFractionOf", spec := "fnFractionOf", apart := false, narrowed := true }
def FnFractionOfUptoSaid : Prop := fnFractionOfUptoRow.holds Try.pinned (OpenSpec.upto fnFractionOfSpec)

/-- 'laws.FnOneOf', WHERE WHAT IT READS IS OF BULK AT MOST 1048576: true; the input reads as it did. -/
def fnOneOfUptoRow : OpenClaim := { program := "ytjbaegbdacpdnaa", sum := "2d3d18b14fbd1de4e26f2521e7578d720f7fe941651c12e6dc6d2c46a4d25165", func := "loop.example/fixedmath/laws.FnOneOf", spec := "fnOneOf", unfollowed := true, recurses := true, apart := false, narrowed := true }
def FnOneOfUptoSaid : Prop := fnOneOfUptoRow.holds Try.pinned (OpenSpec.upto fnOneOfSpec)

/-- 'laws.FnWholeOf', WHERE WHAT IT READS IS OF BULK AT MOST 1048576: true; the input reads as it did. -/
def fnWholeOfUptoRow : OpenClaim := { program := "ytjbaegbdacpdnaa", sum := "2d3d18b14fbd1de4e26f2521e7578d720f7fe941651c12e6dc6d2c46a4d25165", func := "loop.example/fixedmath/laws.FnWholeOf", spec := "fnWholeOf", apart := false, narrowed := true }
def FnWholeOfUptoSaid : Prop := fnWholeOfUptoRow.holds Try.pinned (OpenSpec.upto fnWholeOfSpec)

/-- 'laws.FnToFormat', WHERE WHAT IT READS IS OF BULK AT MOST 1048576: true; the input reads as it did. -/
def fnToFormatUptoRow : OpenClaim := { program := "ytjbaegbdacpdnaa", sum := "2d3d18b14fbd1de4e26f2521e7578d720f7fe941651c12e6dc6d2c46a4d25165", func := "loop.example/fixedmath/laws.FnToFormat", spec := "fnToFormat", apart := false, narrowed := true }
def FnToFormatUptoSaid : Prop := fnToFormatUptoRow.holds Try.pinned (OpenSpec.upto fnToFormatSpec)

/-- 'laws.FnMulStored', WHERE WHAT IT READS IS OF BULK AT MOST 1048576: true; the input reads as it did. -/
def fnMulStoredUptoRow : OpenClaim := { program := "ytjbaegbdacpdnaa", sum := "2d3d18b14fbd1de4e26f2521e7578d720f7fe941651c12e6dc6d2c46a4d25165", func := "loop.example/fixedmath/laws.FnMulStored", spec := "fnMulStored", unfollowed := true, recurses := true, apart := false, narrowed := true }
def FnMulStoredUptoSaid : Prop := fnMulStoredUptoRow.holds Try.pinned (OpenSpec.upto fnMulStoredSpec)

/-- 'laws.FnFormatChain', WHERE WHAT IT READS IS OF BULK AT MOST 1048576: true; the input reads as it did. -/
def fnFormatChainUptoRow : OpenClaim := { program := "ytjbaegbdacpdnaa", sum := "2d3d18b14fbd1de4e26f2521e7578d720f7fe941651c12e6dc6d2c46a4d25165", func := "loop.example/fixedmath/laws.FnFormatChain", spec := "fnFormatChain", apart := false, narrowed := true }
def FnFormatChainUptoSaid : Prop := fnFormatChainUptoRow.holds Try.pinned (OpenSpec.upto fnFormatChainSpec)

/-- 'laws.FnSquareRoot', WHERE WHAT IT READS IS OF BULK AT MOST 1048576: true; the input reads as it did. -/
def fnSquareRootUptoRow : OpenClaim := { program := "ytjbaegbdacpdnaa", sum := "2d3d18b14fbd1de4e26f2521e7578d720f7fe941651c12e6dc6d2c46a4d25165", func := "loop.example/fixedmath/laws.FnSquareRoot", spec := "fnSquareRoot", unfollowed := true, recurses := true, apart := false, narrowed := true }
def FnSquareRootUptoSaid : Prop := fnSquareRootUptoRow.holds Try.pinned (OpenSpec.upto fnSquareRootSpec)

/-- 'laws.FnFractionMul', WHERE WHAT IT READS IS OF BULK AT MOST 1048576: true; the input reads as it did. -/
def fnFractionMulUptoRow : OpenClaim := { program := "ytjbaegbdacpdnaa", sum := "2d3d18b14fbd1de4e26f2521e7578d720f7fe941651c12e6dc6d2c46a4d25165", func := "loop.example/fixedmath/laws.FnFractionMul", spec := "fnFractionMul", apart := false, narrowed := true }
def FnFractionMulUptoSaid : Prop := fnFractionMulUptoRow.holds Try.pinned (OpenSpec.upto fnFractionMulSpec)

/-- 'laws.FnDivStored', WHERE WHAT IT READS IS OF BULK AT MOST 1048576: true; the input reads as it did. -/
def fnDivStoredUptoRow : OpenClaim := { program := "ytjbaegbdacpdnaa", sum := "2d3d18b14fbd1de4e26f2521e7578d720f7fe941651c12e6dc6d2c46a4d25165", func := "loop.example/fixedmath/laws.FnDivStored", spec := "fnDivStored", unfollowed := true, recurses := true, apart := false, narrowed := true }
def FnDivStoredUptoSaid : Prop := fnDivStoredUptoRow.holds Try.pinned (OpenSpec.upto fnDivStoredSpec)

end Rows
end Go.Proofs.Ytjbaegbdacpdnaa
