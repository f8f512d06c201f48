/-
  What the laws on spans need of the functions, second part.
-/
import Derived.Test.YtfllhncilfkamaaLawSpan
import Derived.Test.YtfllhncilfkamaaSpanTimes
import Derived.Test.YtfllhncilfkamaaDrawSpans2
namespace Go.Proofs.Ytfllhncilfkamaa
open Go.RowKit

/-- A function returns a struct of two numbers and makes blocks of its own alone. -/
abbrev GivesA (P : Program) (f : FuncId) (args : Array Value) (x y : Int) : Prop := ∀ w : World, Calls P f args w fun e w' => e = .returned (.agg #[.int .i64 x, .int .i64 y]) ∧ Below w.heap.size w w'

theorem Hold.sub {w W : World} {L L' : List (Nat × Nat × Value)} (h : Hold w L W) (hs : ∀ x ∈ L', x ∈ L) : Hold w L' W := ⟨h.1, fun x hx => h.2 x (hs x hx)⟩
theorem Held.at6 {w : World} {a b c d e f g : Nat × Nat × Value} {L : List (Nat × Nat × Value)} (x : Held w (a :: b :: c :: d :: e :: f :: g :: L)) : x.it.cell? ⟨g.1, g.2.1, none⟩ = some g.2.2 := (x.ok.2 g (by simp)).2
theorem Held.at7 {w : World} {a b c d e f g h : Nat × Nat × Value} {L : List (Nat × Nat × Value)} (x : Held w (a :: b :: c :: d :: e :: f :: g :: h :: L)) : x.it.cell? ⟨h.1, h.2.1, none⟩ = some h.2.2 := (x.ok.2 h (by simp)).2
theorem Held.at8 {w : World} {a b c d e f g h i : Nat × Nat × Value} {L : List (Nat × Nat × Value)} (x : Held w (a :: b :: c :: d :: e :: f :: g :: h :: i :: L)) : x.it.cell? ⟨i.1, i.2.1, none⟩ = some i.2.2 := (x.ok.2 i (by simp)).2
theorem Held.at9 {w : World} {a b c d e f g h i j : Nat × Nat × Value} {L : List (Nat × Nat × Value)} (x : Held w (a :: b :: c :: d :: e :: f :: g :: h :: i :: j :: L)) : x.it.cell? ⟨j.1, j.2.1, none⟩ = some j.2.2 := (x.ok.2 j (by simp)).2
theorem Held.at10 {w : World} {a b c d e f g h i j k : Nat × Nat × Value} {L : List (Nat × Nat × Value)} (x : Held w (a :: b :: c :: d :: e :: f :: g :: h :: i :: j :: k :: L)) : x.it.cell? ⟨k.1, k.2.1, none⟩ = some k.2.2 := (x.ok.2 k (by simp)).2
theorem Held.at11 {w : World} {a b c d e f g h i j k l : Nat × Nat × Value} {L : List (Nat × Nat × Value)} (x : Held w (a :: b :: c :: d :: e :: f :: g :: h :: i :: j :: k :: l :: L)) : x.it.cell? ⟨l.1, l.2.1, none⟩ = some l.2.2 := (x.ok.2 l (by simp)).2

