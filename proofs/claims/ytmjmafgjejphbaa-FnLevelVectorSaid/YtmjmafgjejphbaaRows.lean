/-
  No cell of these rows narrows 'for every input' (looked for: loops, veiled, ifaces, maps, wideKeys, modest, calm, conditions, laid).
  DERIVED. THE GIVEN ROWS OF THIS SEAT. 21 by the template 'for every input the law returns true; each argument reads behind the call as it read before'; 0 by the template 'total and deterministic' (their statements: YtmjmafgjejphbaaTotals.lean).
  GIVEN WITH THE SEED: the statements are not yours to turn. If you find one false, say at which input.
  Laid BY PROGRAM, IN A SANDBOX (cutbox-rows.mjs): the forced cells as the released guide's own fill.sh prints them over the translation 1ba21cc52770d787… (all of the seat's roots in one cut). By AI agents, Wed Nov 11 2026. No macro, syntax, notation, axiom, sorry.
-/
import Derived.Test.YtmjmafgjejphbaaChecked
import GoSem.Claim
import GoSem.ClaimJoined
import GoSem.ClaimMapViews
import Derived.JoinedTies
import Derived.KernelRfl
namespace Go.Proofs.Ytmjmafgjejphbaa
/- THE CELL 'sum', in the pinned program and in every row, IS THE sha256 OF THE DUMP (.gsa) THAT YtmjmafgjejphbaaProg.lean LOADS. Nothing in Lean hashes anything: it is a label: what it is worth is what the hold of that sum in a sandbox is worth. -/
noncomputable def Try.pinned : Pinned := { name := "ytmjmafgjejphbaa", sum := "1ba21cc52770d787756592388992258a03a498c0d78dd670829899f72ba6e790", checked := Try.checked }
namespace Rows
def none {H : Type} : Left H := { results := [], args := [] }

/-- 'laws.FnCosSin': WHATEVER THE INPUT: true; the input reads as it did. -/
def fnCosSinSpec : ChangeSpec := { name := "fnCosSin", fn := fun _ => fun
  | [d] => { results := [.lit (.bool true)], args := [d] }
  | _ => none }
def fnCosSinRow : OpenClaim := { program := "ytmjmafgjejphbaa", sum := "1ba21cc52770d787756592388992258a03a498c0d78dd670829899f72ba6e790", func := "loop.example/fixedmath/laws.FnCosSin", spec := "fnCosSin", recurses := true, apart := false }
def FnCosSinSaid : Prop := fnCosSinRow.holds Try.pinned (OpenSpec.ofChange fnCosSinSpec)

/-- ITS FALSE NEIGHBOUR: 'it returns false'. Refute it at one input. -/
def fnCosSinWrong : ChangeSpec := { name := "fnCosSin", fn := fun _ => fun
  | [d] => { results := [.lit (.bool false)], args := [d] }
  | _ => none }
def FnCosSinWrongFalsely : Prop := fnCosSinRow.holds Try.pinned (OpenSpec.ofChange fnCosSinWrong)

/-- 'laws.FnSine': WHATEVER THE INPUT: true; the input reads as it did. -/
def fnSineSpec : ChangeSpec := { name := "fnSine", fn := fun _ => fun
  | [d] => { results := [.lit (.bool true)], args := [d] }
  | _ => none }
def fnSineRow : OpenClaim := { program := "ytmjmafgjejphbaa", sum := "1ba21cc52770d787756592388992258a03a498c0d78dd670829899f72ba6e790", func := "loop.example/fixedmath/laws.FnSine", spec := "fnSine", recurses := true, apart := false }
def FnSineSaid : Prop := fnSineRow.holds Try.pinned (OpenSpec.ofChange fnSineSpec)

/-- ITS FALSE NEIGHBOUR: 'it returns false'. Refute it at one input. -/
def fnSineWrong : ChangeSpec := { name := "fnSine", fn := fun _ => fun
  | [d] => { results := [.lit (.bool false)], args := [d] }
  | _ => none }
def FnSineWrongFalsely : Prop := fnSineRow.holds Try.pinned (OpenSpec.ofChange fnSineWrong)

/-- 'laws.FnExactPiSpan': WHATEVER THE INPUT: true; the input reads as it did. -/
def fnExactPiSpanSpec : ChangeSpec := { name := "fnExactPiSpan", fn := fun _ => fun
  | [] => { results := [.lit (.bool true)], args := [] }
  | _ => none }
def fnExactPiSpanRow : OpenClaim := { program := "ytmjmafgjejphbaa", sum := "1ba21cc52770d787756592388992258a03a498c0d78dd670829899f72ba6e790", func := "loop.example/fixedmath/laws.FnExactPiSpan", spec := "fnExactPiSpan", apart := false }
def FnExactPiSpanSaid : Prop := fnExactPiSpanRow.holds Try.pinned (OpenSpec.ofChange fnExactPiSpanSpec)

/-- ITS FALSE NEIGHBOUR: 'it returns false'. Refute it at one input. -/
def fnExactPiSpanWrong : ChangeSpec := { name := "fnExactPiSpan", fn := fun _ => fun
  | [] => { results := [.lit (.bool false)], args := [] }
  | _ => none }
def FnExactPiSpanWrongFalsely : Prop := fnExactPiSpanRow.holds Try.pinned (OpenSpec.ofChange fnExactPiSpanWrong)

/-- 'laws.FnArcSpan': WHATEVER THE INPUT: true; the input reads as it did. -/
def fnArcSpanSpec : ChangeSpec := { name := "fnArcSpan", fn := fun _ => fun
  | [d] => { results := [.lit (.bool true)], args := [d] }
  | _ => none }
def fnArcSpanRow : OpenClaim := { program := "ytmjmafgjejphbaa", sum := "1ba21cc52770d787756592388992258a03a498c0d78dd670829899f72ba6e790", func := "loop.example/fixedmath/laws.FnArcSpan", spec := "fnArcSpan", apart := false }
def FnArcSpanSaid : Prop := fnArcSpanRow.holds Try.pinned (OpenSpec.ofChange fnArcSpanSpec)

/-- ITS FALSE NEIGHBOUR: 'it returns false'. Refute it at one input. -/
def fnArcSpanWrong : ChangeSpec := { name := "fnArcSpan", fn := fun _ => fun
  | [d] => { results := [.lit (.bool false)], args := [d] }
  | _ => none }
def FnArcSpanWrongFalsely : Prop := fnArcSpanRow.holds Try.pinned (OpenSpec.ofChange fnArcSpanWrong)

/-- 'laws.FnCosine': WHATEVER THE INPUT: true; the input reads as it did. -/
def fnCosineSpec : ChangeSpec := { name := "fnCosine", fn := fun _ => fun
  | [d] => { results := [.lit (.bool true)], args := [d] }
  | _ => none }
def fnCosineRow : OpenClaim := { program := "ytmjmafgjejphbaa", sum := "1ba21cc52770d787756592388992258a03a498c0d78dd670829899f72ba6e790", func := "loop.example/fixedmath/laws.FnCosine", spec := "fnCosine", recurses := true, apart := false }
def FnCosineSaid : Prop := fnCosineRow.holds Try.pinned (OpenSpec.ofChange fnCosineSpec)

/-- ITS FALSE NEIGHBOUR: 'it returns false'. Refute it at one input. -/
def fnCosineWrong : ChangeSpec := { name := "fnCosine", fn := fun _ => fun
  | [d] => { results := [.lit (.bool false)], args := [d] }
  | _ => none }
def FnCosineWrongFalsely : Prop := fnCosineRow.holds Try.pinned (OpenSpec.ofChange fnCosineWrong)

/-- 'laws.FnPiSpan': WHATEVER THE INPUT: true; the input reads as it did. -/
def fnPiSpanSpec : ChangeSpec := { name := "fnPiSpan", fn := fun _ => fun
  | [d] => { results := [.lit (.bool true)], args := [d] }
  | _ => none }
def fnPiSpanRow : OpenClaim := { program := "ytmjmafgjejphbaa", sum := "1ba21cc52770d787756592388992258a03a498c0d78dd670829899f72ba6e790", func := "loop.example/fixedmath/laws.FnPiSpan", spec := "fnPiSpan", apart := false }
def FnPiSpanSaid : Prop := fnPiSpanRow.holds Try.pinned (OpenSpec.ofChange fnPiSpanSpec)

/-- ITS FALSE NEIGHBOUR: 'it returns false'. Refute it at one input. -/
def fnPiSpanWrong : ChangeSpec := { name := "fnPiSpan", fn := fun _ => fun
  | [d] => { results := [.lit (.bool false)], args := [d] }
  | _ => none }
def FnPiSpanWrongFalsely : Prop := fnPiSpanRow.holds Try.pinned (OpenSpec.ofChange fnPiSpanWrong)

/-- 'laws.FnExactGrowthSpan': WHATEVER THE INPUT: true; the input reads as it did. -/
def fnExactGrowthSpanSpec : ChangeSpec := { name := "fnExactGrowthSpan", fn := fun _ => fun
  | [d] => { results := [.lit (.bool true)], args := [d] }
  | _ => none }
def fnExactGrowthSpanRow : OpenClaim := { program := "ytmjmafgjejphbaa", sum := "1ba21cc52770d787756592388992258a03a498c0d78dd670829899f72ba6e790", func := "loop.example/fixedmath/laws.FnExactGrowthSpan", spec := "fnExactGrowthSpan", apart := false }
def FnExactGrowthSpanSaid : Prop := fnExactGrowthSpanRow.holds Try.pinned (OpenSpec.ofChange fnExactGrowthSpanSpec)

/-- ITS FALSE NEIGHBOUR: 'it returns false'. Refute it at one input. -/
def fnExactGrowthSpanWrong : ChangeSpec := { name := "fnExactGrowthSpan", fn := fun _ => fun
  | [d] => { results := [.lit (.bool false)], args := [d] }
  | _ => none }
def FnExactGrowthSpanWrongFalsely : Prop := fnExactGrowthSpanRow.holds Try.pinned (OpenSpec.ofChange fnExactGrowthSpanWrong)

/-- 'laws.FnExactStepAngle': WHATEVER THE INPUT: true; the input reads as it did. -/
def fnExactStepAngleSpec : ChangeSpec := { name := "fnExactStepAngle", fn := fun _ => fun
  | [d] => { results := [.lit (.bool true)], args := [d] }
  | _ => none }
def fnExactStepAngleRow : OpenClaim := { program := "ytmjmafgjejphbaa", sum := "1ba21cc52770d787756592388992258a03a498c0d78dd670829899f72ba6e790", func := "loop.example/fixedmath/laws.FnExactStepAngle", spec := "fnExactStepAngle", recurses := true, apart := false }
def FnExactStepAngleSaid : Prop := fnExactStepAngleRow.holds Try.pinned (OpenSpec.ofChange fnExactStepAngleSpec)

/-- ITS FALSE NEIGHBOUR: 'it returns false'. Refute it at one input. -/
def fnExactStepAngleWrong : ChangeSpec := { name := "fnExactStepAngle", fn := fun _ => fun
  | [d] => { results := [.lit (.bool false)], args := [d] }
  | _ => none }
def FnExactStepAngleWrongFalsely : Prop := fnExactStepAngleRow.holds Try.pinned (OpenSpec.ofChange fnExactStepAngleWrong)

/-- 'laws.FnExactStartOf': WHATEVER THE INPUT: true; the input reads as it did. -/
def fnExactStartOfSpec : ChangeSpec := { name := "fnExactStartOf", fn := fun _ => fun
  | [d] => { results := [.lit (.bool true)], args := [d] }
  | _ => none }
def fnExactStartOfRow : OpenClaim := { program := "ytmjmafgjejphbaa", sum := "1ba21cc52770d787756592388992258a03a498c0d78dd670829899f72ba6e790", func := "loop.example/fixedmath/laws.FnExactStartOf", spec := "fnExactStartOf", apart := false }
def FnExactStartOfSaid : Prop := fnExactStartOfRow.holds Try.pinned (OpenSpec.ofChange fnExactStartOfSpec)

/-- ITS FALSE NEIGHBOUR: 'it returns false'. Refute it at one input. -/
def fnExactStartOfWrong : ChangeSpec := { name := "fnExactStartOf", fn := fun _ => fun
  | [d] => { results := [.lit (.bool false)], args := [d] }
  | _ => none }
def FnExactStartOfWrongFalsely : Prop := fnExactStartOfRow.holds Try.pinned (OpenSpec.ofChange fnExactStartOfWrong)

/-- 'laws.FnGrowthSpan': WHATEVER THE INPUT: true; the input reads as it did. -/
def fnGrowthSpanSpec : ChangeSpec := { name := "fnGrowthSpan", fn := fun _ => fun
  | [d] => { results := [.lit (.bool true)], args := [d] }
  | _ => none }
def fnGrowthSpanRow : OpenClaim := { program := "ytmjmafgjejphbaa", sum := "1ba21cc52770d787756592388992258a03a498c0d78dd670829899f72ba6e790", func := "loop.example/fixedmath/laws.FnGrowthSpan", spec := "fnGrowthSpan", apart := false }
def FnGrowthSpanSaid : Prop := fnGrowthSpanRow.holds Try.pinned (OpenSpec.ofChange fnGrowthSpanSpec)

/-- ITS FALSE NEIGHBOUR: 'it returns false'. Refute it at one input. -/
def fnGrowthSpanWrong : ChangeSpec := { name := "fnGrowthSpan", fn := fun _ => fun
  | [d] => { results := [.lit (.bool false)], args := [d] }
  | _ => none }
def FnGrowthSpanWrongFalsely : Prop := fnGrowthSpanRow.holds Try.pinned (OpenSpec.ofChange fnGrowthSpanWrong)

/-- 'laws.FnExactStepAngles': WHATEVER THE INPUT: true; the input reads as it did. -/
def fnExactStepAnglesSpec : ChangeSpec := { name := "fnExactStepAngles", fn := fun _ => fun
  | [d] => { results := [.lit (.bool true)], args := [d] }
  | _ => none }
def fnExactStepAnglesRow : OpenClaim := { program := "ytmjmafgjejphbaa", sum := "1ba21cc52770d787756592388992258a03a498c0d78dd670829899f72ba6e790", func := "loop.example/fixedmath/laws.FnExactStepAngles", spec := "fnExactStepAngles", recurses := true, apart := false }
def FnExactStepAnglesSaid : Prop := fnExactStepAnglesRow.holds Try.pinned (OpenSpec.ofChange fnExactStepAnglesSpec)

/-- ITS FALSE NEIGHBOUR: 'it returns false'. Refute it at one input. -/
def fnExactStepAnglesWrong : ChangeSpec := { name := "fnExactStepAngles", fn := fun _ => fun
  | [d] => { results := [.lit (.bool false)], args := [d] }
  | _ => none }
def FnExactStepAnglesWrongFalsely : Prop := fnExactStepAnglesRow.holds Try.pinned (OpenSpec.ofChange fnExactStepAnglesWrong)

/-- 'laws.FnStartOf': WHATEVER THE INPUT: true; the input reads as it did. -/
def fnStartOfSpec : ChangeSpec := { name := "fnStartOf", fn := fun _ => fun
  | [d] => { results := [.lit (.bool true)], args := [d] }
  | _ => none }
def fnStartOfRow : OpenClaim := { program := "ytmjmafgjejphbaa", sum := "1ba21cc52770d787756592388992258a03a498c0d78dd670829899f72ba6e790", func := "loop.example/fixedmath/laws.FnStartOf", spec := "fnStartOf", apart := false }
def FnStartOfSaid : Prop := fnStartOfRow.holds Try.pinned (OpenSpec.ofChange fnStartOfSpec)

/-- ITS FALSE NEIGHBOUR: 'it returns false'. Refute it at one input. -/
def fnStartOfWrong : ChangeSpec := { name := "fnStartOf", fn := fun _ => fun
  | [d] => { results := [.lit (.bool false)], args := [d] }
  | _ => none }
def FnStartOfWrongFalsely : Prop := fnStartOfRow.holds Try.pinned (OpenSpec.ofChange fnStartOfWrong)

/-- 'laws.FnStepAngle': WHATEVER THE INPUT: true; the input reads as it did. -/
def fnStepAngleSpec : ChangeSpec := { name := "fnStepAngle", fn := fun _ => fun
  | [d] => { results := [.lit (.bool true)], args := [d] }
  | _ => none }
def fnStepAngleRow : OpenClaim := { program := "ytmjmafgjejphbaa", sum := "1ba21cc52770d787756592388992258a03a498c0d78dd670829899f72ba6e790", func := "loop.example/fixedmath/laws.FnStepAngle", spec := "fnStepAngle", recurses := true, apart := false }
def FnStepAngleSaid : Prop := fnStepAngleRow.holds Try.pinned (OpenSpec.ofChange fnStepAngleSpec)

/-- ITS FALSE NEIGHBOUR: 'it returns false'. Refute it at one input. -/
def fnStepAngleWrong : ChangeSpec := { name := "fnStepAngle", fn := fun _ => fun
  | [d] => { results := [.lit (.bool false)], args := [d] }
  | _ => none }
def FnStepAngleWrongFalsely : Prop := fnStepAngleRow.holds Try.pinned (OpenSpec.ofChange fnStepAngleWrong)

/-- 'laws.FnExactTurnVector': WHATEVER THE INPUT: true; the input reads as it did. -/
def fnExactTurnVectorSpec : ChangeSpec := { name := "fnExactTurnVector", fn := fun _ => fun
  | [d1, d2, d3] => { results := [.lit (.bool true)], args := [d1, d2, d3] }
  | _ => none }
def fnExactTurnVectorRow : OpenClaim := { program := "ytmjmafgjejphbaa", sum := "1ba21cc52770d787756592388992258a03a498c0d78dd670829899f72ba6e790", func := "loop.example/fixedmath/laws.FnExactTurnVector", spec := "fnExactTurnVector", recurses := true, apart := false }
def FnExactTurnVectorSaid : Prop := fnExactTurnVectorRow.holds Try.pinned (OpenSpec.ofChange fnExactTurnVectorSpec)

/-- ITS FALSE NEIGHBOUR: 'it returns false'. Refute it at one input. -/
def fnExactTurnVectorWrong : ChangeSpec := { name := "fnExactTurnVector", fn := fun _ => fun
  | [d1, d2, d3] => { results := [.lit (.bool false)], args := [d1, d2, d3] }
  | _ => none }
def FnExactTurnVectorWrongFalsely : Prop := fnExactTurnVectorRow.holds Try.pinned (OpenSpec.ofChange fnExactTurnVectorWrong)

/-- 'laws.FnExactLevelVector': WHATEVER THE INPUT: true; the input reads as it did. -/
def fnExactLevelVectorSpec : ChangeSpec := { name := "fnExactLevelVector", fn := fun _ => fun
  | [d1, d2] => { results := [.lit (.bool true)], args := [d1, d2] }
  | _ => none }
def fnExactLevelVectorRow : OpenClaim := { program := "ytmjmafgjejphbaa", sum := "1ba21cc52770d787756592388992258a03a498c0d78dd670829899f72ba6e790", func := "loop.example/fixedmath/laws.FnExactLevelVector", spec := "fnExactLevelVector", recurses := true, apart := false }
def FnExactLevelVectorSaid : Prop := fnExactLevelVectorRow.holds Try.pinned (OpenSpec.ofChange fnExactLevelVectorSpec)

/-- ITS FALSE NEIGHBOUR: 'it returns false'. Refute it at one input. -/
def fnExactLevelVectorWrong : ChangeSpec := { name := "fnExactLevelVector", fn := fun _ => fun
  | [d1, d2] => { results := [.lit (.bool false)], args := [d1, d2] }
  | _ => none }
def FnExactLevelVectorWrongFalsely : Prop := fnExactLevelVectorRow.holds Try.pinned (OpenSpec.ofChange fnExactLevelVectorWrong)

/-- 'laws.FnStepAngles': WHATEVER THE INPUT: true; the input reads as it did. -/
def fnStepAnglesSpec : ChangeSpec := { name := "fnStepAngles", fn := fun _ => fun
  | [d] => { results := [.lit (.bool true)], args := [d] }
  | _ => none }
def fnStepAnglesRow : OpenClaim := { program := "ytmjmafgjejphbaa", sum := "1ba21cc52770d787756592388992258a03a498c0d78dd670829899f72ba6e790", func := "loop.example/fixedmath/laws.FnStepAngles", spec := "fnStepAngles", recurses := true, apart := false }
def FnStepAnglesSaid : Prop := fnStepAnglesRow.holds Try.pinned (OpenSpec.ofChange fnStepAnglesSpec)

/-- ITS FALSE NEIGHBOUR: 'it returns false'. Refute it at one input. -/
def fnStepAnglesWrong : ChangeSpec := { name := "fnStepAngles", fn := fun _ => fun
  | [d] => { results := [.lit (.bool false)], args := [d] }
  | _ => none }
def FnStepAnglesWrongFalsely : Prop := fnStepAnglesRow.holds Try.pinned (OpenSpec.ofChange fnStepAnglesWrong)

/-- 'laws.FnLevelVector': WHATEVER THE INPUT: true; the input reads as it did. -/
def fnLevelVectorSpec : ChangeSpec := { name := "fnLevelVector", fn := fun _ => fun
  | [d] => { results := [.lit (.bool true)], args := [d] }
  | _ => none }
def fnLevelVectorRow : OpenClaim := { program := "ytmjmafgjejphbaa", sum := "1ba21cc52770d787756592388992258a03a498c0d78dd670829899f72ba6e790", func := "loop.example/fixedmath/laws.FnLevelVector", spec := "fnLevelVector", recurses := true, apart := false }
def FnLevelVectorSaid : Prop := fnLevelVectorRow.holds Try.pinned (OpenSpec.ofChange fnLevelVectorSpec)

/-- ITS FALSE NEIGHBOUR: 'it returns false'. Refute it at one input. -/
def fnLevelVectorWrong : ChangeSpec := { name := "fnLevelVector", fn := fun _ => fun
  | [d] => { results := [.lit (.bool false)], args := [d] }
  | _ => none }
def FnLevelVectorWrongFalsely : Prop := fnLevelVectorRow.holds Try.pinned (OpenSpec.ofChange fnLevelVectorWrong)

/-- 'laws.FnTurnVector': WHATEVER THE INPUT: true; the input reads as it did. -/
def fnTurnVectorSpec : ChangeSpec := { name := "fnTurnVector", fn := fun _ => fun
  | [d] => { results := [.lit (.bool true)], args := [d] }
  | _ => none }
def fnTurnVectorRow : OpenClaim := { program := "ytmjmafgjejphbaa", sum := "1ba21cc52770d787756592388992258a03a498c0d78dd670829899f72ba6e790", func := "loop.example/fixedmath/laws.FnTurnVector", spec := "fnTurnVector", recurses := true, apart := false }
def FnTurnVectorSaid : Prop := fnTurnVectorRow.holds Try.pinned (OpenSpec.ofChange fnTurnVectorSpec)

/-- ITS FALSE NEIGHBOUR: 'it returns false'. Refute it at one input. -/
def fnTurnVectorWrong : ChangeSpec := { name := "fnTurnVector", fn := fun _ => fun
  | [d] => { results := [.lit (.bool false)], args := [d] }
  | _ => none }
def FnTurnVectorWrongFalsely : Prop := fnTurnVectorRow.holds Try.pinned (OpenSpec.ofChange fnTurnVectorWrong)

/-- 'laws.FnExactCosSin': WHATEVER THE INPUT: true; the input reads as it did. -/
def fnExactCosSinSpec : ChangeSpec := { name := "fnExactCosSin", fn := fun _ => fun
  | [d] => { results := [.lit (.bool true)], args := [d] }
  | _ => none }
def fnExactCosSinRow : OpenClaim := { program := "ytmjmafgjejphbaa", sum := "1ba21cc52770d787756592388992258a03a498c0d78dd670829899f72ba6e790", func := "loop.example/fixedmath/laws.FnExactCosSin", spec := "fnExactCosSin", recurses := true, apart := false }
def FnExactCosSinSaid : Prop := fnExactCosSinRow.holds Try.pinned (OpenSpec.ofChange fnExactCosSinSpec)

/-- ITS FALSE NEIGHBOUR: 'it returns false'. Refute it at one input. -/
def fnExactCosSinWrong : ChangeSpec := { name := "fnExactCosSin", fn := fun _ => fun
  | [d] => { results := [.lit (.bool false)], args := [d] }
  | _ => none }
def FnExactCosSinWrongFalsely : Prop := fnExactCosSinRow.holds Try.pinned (OpenSpec.ofChange fnExactCosSinWrong)

/-- 'laws.FnExactCosine': WHATEVER THE INPUT: true; the input reads as it did. -/
def fnExactCosineSpec : ChangeSpec := { name := "fnExactCosine", fn := fun _ => fun
  | [d] => { results := [.lit (.bool true)], args := [d] }
  | _ => none }
def fnExactCosineRow : OpenClaim := { program := "ytmjmafgjejphbaa", sum := "1ba21cc52770d787756592388992258a03a498c0d78dd670829899f72ba6e790", func := "loop.example/fixedmath/laws.FnExactCosine", spec := "fnExactCosine", recurses := true, apart := false }
def FnExactCosineSaid : Prop := fnExactCosineRow.holds Try.pinned (OpenSpec.ofChange fnExactCosineSpec)

/-- ITS FALSE NEIGHBOUR: 'it returns false'. Refute it at one input. -/
def fnExactCosineWrong : ChangeSpec := { name := "fnExactCosine", fn := fun _ => fun
  | [d] => { results := [.lit (.bool false)], args := [d] }
  | _ => none }
def FnExactCosineWrongFalsely : Prop := fnExactCosineRow.holds Try.pinned (OpenSpec.ofChange fnExactCosineWrong)

/-- 'laws.FnExactSine': WHATEVER THE INPUT: true; the input reads as it did. -/
def fnExactSineSpec : ChangeSpec := { name := "fnExactSine", fn := fun _ => fun
  | [d] => { results := [.lit (.bool true)], args := [d] }
  | _ => none }
def fnExactSineRow : OpenClaim := { program := "ytmjmafgjejphbaa", sum := "1ba21cc52770d787756592388992258a03a498c0d78dd670829899f72ba6e790", func := "loop.example/fixedmath/laws.FnExactSine", spec := "fnExactSine", recurses := true, apart := false }
def FnExactSineSaid : Prop := fnExactSineRow.holds Try.pinned (OpenSpec.ofChange fnExactSineSpec)

/-- ITS FALSE NEIGHBOUR: 'it returns false'. Refute it at one input. -/
def fnExactSineWrong : ChangeSpec := { name := "fnExactSine", fn := fun _ => fun
  | [d] => { results := [.lit (.bool false)], args := [d] }
  | _ => none }
def FnExactSineWrongFalsely : Prop := fnExactSineRow.holds Try.pinned (OpenSpec.ofChange fnExactSineWrong)

/- THE SECOND FORM. 'bulk': how many values and letters a reading holds, each counted each time it is reached (what is shared counts as often as it is met; a slice's spare places count too). A statement '..UptoSaid' is the law's where the arguments, and the package variables that the reading takes, are together of bulk at most 1048576: NARROWER than '..Said'. Prove '..Said' where nothing that the law and all that it calls make is longer than what came in: it says more and counts as full. Else prove '..UptoSaid'. A law counts once. -/
mutual
def uptoBulk {H : Type} : DataW H → Nat
  | .lit (.string bytes) => bytes.length + 1
  | .lit _ => 1
  | .nil => 1
  | .ptr d => uptoBulk d + 1
  | .slice elems spare => uptoBulkAll elems + uptoBulkAll spare + 1
  | .agg parts => uptoBulkAll parts + 1
  | .iface _ d => uptoBulk d + 1
  | .map entries => uptoBulkEntries entries + 1
  | .held _ => 1
def uptoBulkAll {H : Type} : List (DataW H) → Nat
  | [] => 0
  | d :: r => uptoBulk d + uptoBulkAll r
def uptoBulkEntries {H : Type} : List (Lit × DataW H) → Nat
  | [] => 0
  | x :: r => uptoBulkEntry x + uptoBulkEntries r
def uptoBulkEntry {H : Type} : Lit × DataW H → Nat
  | (.string bytes, d) => bytes.length + uptoBulk d + 1
  | (_, d) => uptoBulk d + 1
 end
def uptoSmall : (H : Type) → List (DataW H) → Bool := fun _ ds => decide (uptoBulkAll ds ≤ 1048576)
def OpenSpec.upto (s : _root_.Go.ChangeSpec) : _root_.Go.OpenSpec := { _root_.Go.OpenSpec.ofChange s with cond := some uptoSmall }

/-- 'laws.FnCosSin', WHERE WHAT IT READS IS OF BULK AT MOST 1048576: true; the input reads as it did. -/
def fnCosSinUptoRow : OpenClaim := { program := "ytmjmafgjejphbaa", sum := "1ba21cc52770d787756592388992258a03a498c0d78dd670829899f72ba6e790", func := "loop.example/fixedmath/laws.FnCosSin", spec := "fnCosSin", recurses := true, apart := false, narrowed := true }
def FnCosSinUptoSaid : Prop := fnCosSinUptoRow.holds Try.pinned (OpenSpec.upto fnCosSinSpec)

/-- 'laws.FnSine', WHERE WHAT IT READS IS OF BULK AT MOST 1048576: true; the input reads as it did. -/
def fnSineUptoRow : OpenClaim := { program := "ytmjmafgjejphbaa", sum := "1ba21cc52770d787756592388992258a03a498c0d78dd670829899f72ba6e790", func := "loop.example/fixedmath/laws.FnSine", spec := "fnSine", recurses := true, apart := false, narrowed := true }
def FnSineUptoSaid : Prop := fnSineUptoRow.holds Try.pinned (OpenSpec.upto fnSineSpec)

/-- 'laws.FnExactPiSpan', WHERE WHAT IT READS IS OF BULK AT MOST 1048576: true; the input reads as it did. -/
def fnExactPiSpanUptoRow : OpenClaim := { program := "ytmjmafgjejphbaa", sum := "1ba21cc52770d787756592388992258a03a498c0d78dd670829899f72ba6e790", func := "loop.example/fixedmath/laws.FnExactPiSpan", spec := "fnExactPiSpan", apart := false, narrowed := true }
def FnExactPiSpanUptoSaid : Prop := fnExactPiSpanUptoRow.holds Try.pinned (OpenSpec.upto fnExactPiSpanSpec)

/-- 'laws.FnArcSpan', WHERE WHAT IT READS IS OF BULK AT MOST 1048576: true; the input reads as it did. -/
def fnArcSpanUptoRow : OpenClaim := { program := "ytmjmafgjejphbaa", sum := "1ba21cc52770d787756592388992258a03a498c0d78dd670829899f72ba6e790", func := "loop.example/fixedmath/laws.FnArcSpan", spec := "fnArcSpan", apart := false, narrowed := true }
def FnArcSpanUptoSaid : Prop := fnArcSpanUptoRow.holds Try.pinned (OpenSpec.upto fnArcSpanSpec)

/-- 'laws.FnCosine', WHERE WHAT IT READS IS OF BULK AT MOST 1048576: true; the input reads as it did. -/
def fnCosineUptoRow : OpenClaim := { program := "ytmjmafgjejphbaa", sum := "1ba21cc52770d787756592388992258a03a498c0d78dd670829899f72ba6e790", func := "loop.example/fixedmath/laws.FnCosine", spec := "fnCosine", recurses := true, apart := false, narrowed := true }
def FnCosineUptoSaid : Prop := fnCosineUptoRow.holds Try.pinned (OpenSpec.upto fnCosineSpec)

/-- 'laws.FnPiSpan', WHERE WHAT IT READS IS OF BULK AT MOST 1048576: true; the input reads as it did. -/
def fnPiSpanUptoRow : OpenClaim := { program := "ytmjmafgjejphbaa", sum := "1ba21cc52770d787756592388992258a03a498c0d78dd670829899f72ba6e790", func := "loop.example/fixedmath/laws.FnPiSpan", spec := "fnPiSpan", apart := false, narrowed := true }
def FnPiSpanUptoSaid : Prop := fnPiSpanUptoRow.holds Try.pinned (OpenSpec.upto fnPiSpanSpec)

/-- 'laws.FnExactGrowthSpan', WHERE WHAT IT READS IS OF BULK AT MOST 1048576: true; the input reads as it did. -/
def fnExactGrowthSpanUptoRow : OpenClaim := { program := "ytmjmafgjejphbaa", sum := "1ba21cc52770d787756592388992258a03a498c0d78dd670829899f72ba6e790", func := "loop.example/fixedmath/laws.FnExactGrowthSpan", spec := "fnExactGrowthSpan", apart := false, narrowed := true }
def FnExactGrowthSpanUptoSaid : Prop := fnExactGrowthSpanUptoRow.holds Try.pinned (OpenSpec.upto fnExactGrowthSpanSpec)

/-- 'laws.FnExactStepAngle', WHERE WHAT IT READS IS OF BULK AT MOST 1048576: true; the input reads as it did. -/
def fnExactStepAngleUptoRow : OpenClaim := { program := "ytmjmafgjejphbaa", sum := "1ba21cc52770d787756592388992258a03a498c0d78dd670829899f72ba6e790", func := "loop.example/fixedmath/laws.FnExactStepAngle", spec := "fnExactStepAngle", recurses := true, apart := false, narrowed := true }
def FnExactStepAngleUptoSaid : Prop := fnExactStepAngleUptoRow.holds Try.pinned (OpenSpec.upto fnExactStepAngleSpec)

/-- 'laws.FnExactStartOf', WHERE WHAT IT READS IS OF BULK AT MOST 1048576: true; the input reads as it did. -/
def fnExactStartOfUptoRow : OpenClaim := { program := "ytmjmafgjejphbaa", sum := "1ba21cc52770d787756592388992258a03a498c0d78dd670829899f72ba6e790", func := "loop.example/fixedmath/laws.FnExactStartOf", spec := "fnExactStartOf", apart := false, narrowed := true }
def FnExactStartOfUptoSaid : Prop := fnExactStartOfUptoRow.holds Try.pinned (OpenSpec.upto fnExactStartOfSpec)

/-- 'laws.FnGrowthSpan', WHERE WHAT IT READS IS OF BULK AT MOST 1048576: true; the input reads as it did. -/
def fnGrowthSpanUptoRow : OpenClaim := { program := "ytmjmafgjejphbaa", sum := "1ba21cc52770d787756592388992258a03a498c0d78dd670829899f72ba6e790", func := "loop.example/fixedmath/laws.FnGrowthSpan", spec := "fnGrowthSpan", apart := false, narrowed := true }
def FnGrowthSpanUptoSaid : Prop := fnGrowthSpanUptoRow.holds Try.pinned (OpenSpec.upto fnGrowthSpanSpec)

/-- 'laws.FnExactStepAngles', WHERE WHAT IT READS IS OF BULK AT MOST 1048576: true; the input reads as it did. -/
def fnExactStepAnglesUptoRow : OpenClaim := { program := "ytmjmafgjejphbaa", sum := "1ba21cc52770d787756592388992258a03a498c0d78dd670829899f72ba6e790", func := "loop.example/fixedmath/laws.FnExactStepAngles", spec := "fnExactStepAngles", recurses := true, apart := false, narrowed := true }
def FnExactStepAnglesUptoSaid : Prop := fnExactStepAnglesUptoRow.holds Try.pinned (OpenSpec.upto fnExactStepAnglesSpec)

/-- 'laws.FnStartOf', WHERE WHAT IT READS IS OF BULK AT MOST 1048576: true; the input reads as it did. -/
def fnStartOfUptoRow : OpenClaim := { program := "ytmjmafgjejphbaa", sum := "1ba21cc52770d787756592388992258a03a498c0d78dd670829899f72ba6e790", func := "loop.example/fixedmath/laws.FnStartOf", spec := "fnStartOf", apart := false, narrowed := true }
def FnStartOfUptoSaid : Prop := fnStartOfUptoRow.holds Try.pinned (OpenSpec.upto fnStartOfSpec)

/-- 'laws.FnStepAngle', WHERE WHAT IT READS IS OF BULK AT MOST 1048576: true; the input reads as it did. -/
def fnStepAngleUptoRow : OpenClaim := { program := "ytmjmafgjejphbaa", sum := "1ba21cc52770d787756592388992258a03a498c0d78dd670829899f72ba6e790", func := "loop.example/fixedmath/laws.FnStepAngle", spec := "fnStepAngle", recurses := true, apart := false, narrowed := true }
def FnStepAngleUptoSaid : Prop := fnStepAngleUptoRow.holds Try.pinned (OpenSpec.upto fnStepAngleSpec)

/-- 'laws.FnExactTurnVector', WHERE WHAT IT READS IS OF BULK AT MOST 1048576: true; the input reads as it did. -/
def fnExactTurnVectorUptoRow : OpenClaim := { program := "ytmjmafgjejphbaa", sum := "1ba21cc52770d787756592388992258a03a498c0d78dd670829899f72ba6e790", func := "loop.example/fixedmath/laws.FnExactTurnVector", spec := "fnExactTurnVector", recurses := true, apart := false, narrowed := true }
def FnExactTurnVectorUptoSaid : Prop := fnExactTurnVectorUptoRow.holds Try.pinned (OpenSpec.upto fnExactTurnVectorSpec)

/-- 'laws.FnExactLevelVector', WHERE WHAT IT READS IS OF BULK AT MOST 1048576: true; the input reads as it did. -/
def fnExactLevelVectorUptoRow : OpenClaim := { program := "ytmjmafgjejphbaa", sum := "1ba21cc52770d787756592388992258a03a498c0d78dd670829899f72ba6e790", func := "loop.example/fixedmath/laws.FnExactLevelVector", spec := "fnExactLevelVector", recurses := true, apart := false, narrowed := true }
def FnExactLevelVectorUptoSaid : Prop := fnExactLevelVectorUptoRow.holds Try.pinned (OpenSpec.upto fnExactLevelVectorSpec)

/-- 'laws.FnStepAngles', WHERE WHAT IT READS IS OF BULK AT MOST 1048576: true; the input reads as it did. -/
def fnStepAnglesUptoRow : OpenClaim := { program := "ytmjmafgjejphbaa", sum := "1ba21cc52770d787756592388992258a03a498c0d78dd670829899f72ba6e790", func := "loop.example/fixedmath/laws.FnStepAngles", spec := "fnStepAngles", recurses := true, apart := false, narrowed := true }
def FnStepAnglesUptoSaid : Prop := fnStepAnglesUptoRow.holds Try.pinned (OpenSpec.upto fnStepAnglesSpec)

/-- 'laws.FnLevelVector', WHERE WHAT IT READS IS OF BULK AT MOST 1048576: true; the input reads as it did. -/
def fnLevelVectorUptoRow : OpenClaim := { program := "ytmjmafgjejphbaa", sum := "1ba21cc52770d787756592388992258a03a498c0d78dd670829899f72ba6e790", func := "loop.example/fixedmath/laws.FnLevelVector", spec := "fnLevelVector", recurses := true, apart := false, narrowed := true }
def FnLevelVectorUptoSaid : Prop := fnLevelVectorUptoRow.holds Try.pinned (OpenSpec.upto fnLevelVectorSpec)

/-- 'laws.FnTurnVector', WHERE WHAT IT READS IS OF BULK AT MOST 1048576: true; the input reads as it did. -/
def fnTurnVectorUptoRow : OpenClaim := { program := "ytmjmafgjejphbaa", sum := "1ba21cc52770d787756592388992258a03a498c0d78dd670829899f72ba6e790", func := "loop.example/fixedmath/laws.FnTurnVector", spec := "fnTurnVector", recurses := true, apart := false, narrowed := true }
def FnTurnVectorUptoSaid : Prop := fnTurnVectorUptoRow.holds Try.pinned (OpenSpec.upto fnTurnVectorSpec)

/-- 'laws.FnExactCosSin', WHERE WHAT IT READS IS OF BULK AT MOST 1048576: true; the input reads as it did. -/
def fnExactCosSinUptoRow : OpenClaim := { program := "ytmjmafgjejphbaa", sum := "1ba21cc52770d787756592388992258a03a498c0d78dd670829899f72ba6e790", func := "loop.example/fixedmath/laws.FnExactCosSin", spec := "fnExactCosSin", recurses := true, apart := false, narrowed := true }
def FnExactCosSinUptoSaid : Prop := fnExactCosSinUptoRow.holds Try.pinned (OpenSpec.upto fnExactCosSinSpec)

/-- 'laws.FnExactCosine', WHERE WHAT IT READS IS OF BULK AT MOST 1048576: true; the input reads as it did. -/
def fnExactCosineUptoRow : OpenClaim := { program := "ytmjmafgjejphbaa", sum := "1ba21cc52770d787756592388992258a03a498c0d78dd670829899f72ba6e790", func := "loop.example/fixedmath/laws.FnExactCosine", spec := "fnExactCosine", recurses := true, apart := false, narrowed := true }
def FnExactCosineUptoSaid : Prop := fnExactCosineUptoRow.holds Try.pinned (OpenSpec.upto fnExactCosineSpec)

/-- 'laws.FnExactSine', WHERE WHAT IT READS IS OF BULK AT MOST 1048576: true; the input reads as it did. -/
def fnExactSineUptoRow : OpenClaim := { program := "ytmjmafgjejphbaa", sum := "1ba21cc52770d787756592388992258a03a498c0d78dd670829899f72ba6e790", func := "loop.example/fixedmath/laws.FnExactSine", spec := "fnExactSine", recurses := true, apart := false, narrowed := true }
def FnExactSineUptoSaid : Prop := fnExactSineUptoRow.holds Try.pinned (OpenSpec.upto fnExactSineSpec)

end Rows
end Go.Proofs.Ytmjmafgjejphbaa
