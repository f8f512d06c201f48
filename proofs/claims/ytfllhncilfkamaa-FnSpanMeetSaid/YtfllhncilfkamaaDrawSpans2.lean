/-
  The draws of spans, second part.
-/
import Derived.Test.YtfllhncilfkamaaDrawSpans
namespace Go.Proofs.Ytfllhncilfkamaa
open Go.RowKit

set_option linter.unusedVariables false in
def kindsSpanTimes (S : List Nat) (B : Nat) : Nat → Value → World → Prop
  | 0, v, _ => IsRd B v
  | 1, v, _ => IsPair v
  | 2, v, _ => IsRd B v
  | 3, v, _ => NumIn 0 8 v
  | 4, v, _ => NumIn (-4) 4 v
  | 5, v, w => RowNum S 5 v w
  | 6, v, w => RowIn S 8 0 4 v w
  | 7, v, _ => IsRd B v
  | 8, v, _ => NumIn 0 7 v
  | 9, v, w => AtIn S 0 4 v w
  | 10, v, _ => NumIn 0 4 v
  | 11, v, w => AtNum S v w
  | 12, v, _ => IsNum v
  | 13, v, _ => True
  | 14, v, _ => IsNum v
  | _, _, _ => True
set_option linter.unusedVariables false in
theorem kindsSpanTimes_keep (S : List Nat) (B : Nat) (j : Nat) (v : Value) (w w' : World) (h : kindsSpanTimes S B j v w) (k : KeptS S w w') : kindsSpanTimes S B j v w' := by
  unfold kindsSpanTimes at *
  split at h <;> first | exact h | exact h.keep k

