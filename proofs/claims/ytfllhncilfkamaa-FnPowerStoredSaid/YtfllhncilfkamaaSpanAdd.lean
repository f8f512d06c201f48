/-
  The walks of operations on spans.
-/
import Derived.Test.YtfllhncilfkamaaSpan
namespace Go.Proofs.Ytfllhncilfkamaa
open Go.RowKit

