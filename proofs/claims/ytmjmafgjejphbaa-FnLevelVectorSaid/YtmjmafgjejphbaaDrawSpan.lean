/-
  The draw of a span.
-/
import Derived.Test.YtmjmafgjejphbaaBox
namespace Go.Proofs.Ytmjmafgjejphbaa
open Go.RowKit

