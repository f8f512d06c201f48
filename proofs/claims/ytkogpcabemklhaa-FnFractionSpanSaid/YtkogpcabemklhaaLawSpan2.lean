/-
  What the laws on spans need of the functions, second part.
-/
import Derived.Test.YtkogpcabemklhaaLawSpan
import Derived.Test.YtkogpcabemklhaaSpanTimes
import Derived.Test.YtkogpcabemklhaaDrawSpans2
namespace Go.Proofs.Ytkogpcabemklhaa
open Go.RowKit

/-- A function returns a struct of two numbers and makes blocks of its own alone. -/
abbrev GivesA (P : Program) (f : FuncId) (args : Array Value) (x y : Int) : Prop := ∀ w : World, Calls P f args w fun e w' => e = .returned (.agg #[.int .i64 x, .int .i64 y]) ∧ Below w.heap.size w w'

theorem neg_pack (a b : Int) (v : Fx.svalid a b) : ∃ X Y : Int,
    GivesA Try.prog 14 #[.agg #[.int .i64 a, .int .i64 b]] X Y ∧
    GivesA Try.prog 15 #[.agg #[.int .i64 a, .int .i64 b]] X Y ∧
    GivesA Try.prog 14 #[.agg #[.int .i64 X, .int .i64 Y]] a b ∧ Fx.svalid X Y ∧ Y - X = b - a := by
  have e : Fx.spanNeg a b = (-b, -a) := if_pos v
  have e2 : Fx.spanNeg (-b) (-a) = (a, b) := by
    unfold Fx.spanNeg
    rw [if_pos (Fx.svalid_neg v), Int.neg_neg, Int.neg_neg]
  have h1 := fun w => spanNeg_any a b w
  have h2 := fun w => s_spanNeg_any a b w
  have h3 := fun w => spanNeg_any (-b) (-a) w
  rw [e] at h1 h2
  rw [e2] at h3
  exact ⟨-b, -a, h1, h2, h3, Fx.svalid_neg v, by omega⟩
theorem neg_none (a b : Int) (v : ¬ Fx.svalid a b) :
    GivesA Try.prog 14 #[.agg #[.int .i64 a, .int .i64 b]] 0 0 ∧
    GivesA Try.prog 15 #[.agg #[.int .i64 a, .int .i64 b]] 0 0 := by
  have e : Fx.spanNeg a b = (0, 0) := if_neg v
  have h1 := fun w => spanNeg_any a b w
  have h2 := fun w => s_spanNeg_any a b w
  rw [e] at h1 h2
  exact ⟨h1, h2⟩

theorem Hold.sub {w W : World} {L L' : List (Nat × Nat × Value)} (h : Hold w L W) (hs : ∀ x ∈ L', x ∈ L) : Hold w L' W := ⟨h.1, fun x hx => h.2 x (hs x hx)⟩
theorem Held.at6 {w : World} {a b c d e f g : Nat × Nat × Value} {L : List (Nat × Nat × Value)} (x : Held w (a :: b :: c :: d :: e :: f :: g :: L)) : x.it.cell? ⟨g.1, g.2.1, none⟩ = some g.2.2 := (x.ok.2 g (by simp)).2
theorem Held.at7 {w : World} {a b c d e f g h : Nat × Nat × Value} {L : List (Nat × Nat × Value)} (x : Held w (a :: b :: c :: d :: e :: f :: g :: h :: L)) : x.it.cell? ⟨h.1, h.2.1, none⟩ = some h.2.2 := (x.ok.2 h (by simp)).2
theorem Held.at8 {w : World} {a b c d e f g h i : Nat × Nat × Value} {L : List (Nat × Nat × Value)} (x : Held w (a :: b :: c :: d :: e :: f :: g :: h :: i :: L)) : x.it.cell? ⟨i.1, i.2.1, none⟩ = some i.2.2 := (x.ok.2 i (by simp)).2
theorem Held.at9 {w : World} {a b c d e f g h i j : Nat × Nat × Value} {L : List (Nat × Nat × Value)} (x : Held w (a :: b :: c :: d :: e :: f :: g :: h :: i :: j :: L)) : x.it.cell? ⟨j.1, j.2.1, none⟩ = some j.2.2 := (x.ok.2 j (by simp)).2
theorem Held.at10 {w : World} {a b c d e f g h i j k : Nat × Nat × Value} {L : List (Nat × Nat × Value)} (x : Held w (a :: b :: c :: d :: e :: f :: g :: h :: i :: j :: k :: L)) : x.it.cell? ⟨k.1, k.2.1, none⟩ = some k.2.2 := (x.ok.2 k (by simp)).2
theorem Held.at11 {w : World} {a b c d e f g h i j k l : Nat × Nat × Value} {L : List (Nat × Nat × Value)} (x : Held w (a :: b :: c :: d :: e :: f :: g :: h :: i :: j :: k :: l :: L)) : x.it.cell? ⟨l.1, l.2.1, none⟩ = some l.2.2 := (x.ok.2 l (by simp)).2

theorem times_pack (a b n : Int) : ∃ (X Y : Int) (k : Bool),
    GivesS Try.prog 34 #[.agg #[.int .i64 a, .int .i64 b], .int .i64 n] X Y k ∧
    GivesS Try.prog 35 #[.agg #[.int .i64 a, .int .i64 b], .int .i64 n] X Y k ∧
    (k = false → X = 0 ∧ Y = 0) ∧ (k = true → Fx.svalid a b ∧ Fx.svalid X Y ∧ (-1000 ≤ n ∧ n ≤ 1000) ∧ (X ≤ n * a ∧ n * a ≤ Y) ∧
      GivesS Try.prog 34 #[.agg #[.int .i64 a, .int .i64 b], .int .i64 1] a b true ∧
      GivesS Try.prog 34 #[.agg #[.int .i64 a, .int .i64 b], .int .i64 (-1)] (-b) (-a) true ∧
      GivesA Try.prog 14 #[.agg #[.int .i64 a, .int .i64 b]] (-b) (-a) ∧
      ∃ (U V : Int) (j : Bool), GivesS Try.prog 34 #[.agg #[.int .i64 a, .int .i64 b], .int .i64 2] U V j ∧
        GivesS Try.prog 24 #[.agg #[.int .i64 a, .int .i64 b], .agg #[.int .i64 a, .int .i64 b]] U V j) := by
  refine ⟨_, _, _, fun w => spanTimes_any a b n w, fun w => s_spanTimes_any a b n w, ?_, ?_⟩
  · intro h
    rcases Fx.tri_cases (Fx.svalid a b ∧ -1000 ≤ n ∧ n ≤ 1000) (min (a * n) (b * n)) (max (a * n) (b * n)) with e | ⟨-, -, e⟩
    · have e : Fx.spanTimes a b n = _ := e
      rw [e]; exact ⟨rfl, rfl⟩
    · have e : Fx.spanTimes a b n = _ := e
      rw [e] at h; cases h
  · intro h
    rcases Fx.tri_cases (Fx.svalid a b ∧ -1000 ≤ n ∧ n ≤ 1000) (min (a * n) (b * n)) (max (a * n) (b * n)) with e | ⟨⟨v1, v2⟩, v3, e⟩
    · have e : Fx.spanTimes a b n = _ := e
      rw [e] at h; cases h
    · have e : Fx.spanTimes a b n = _ := e
      rw [e]
      have t1 := fun w => spanTimes_any a b 1 w
      have t2 := fun w => spanTimes_any a b (-1) w
      have t3 := fun w => spanNeg_any a b w
      have t4 := fun w => spanTimes_any a b 2 w
      rw [Fx.spanTimes_one v1] at t1
      rw [Fx.spanTimes_neg v1] at t2
      rw [show Fx.spanNeg a b = (-b, -a) from if_pos v1] at t3
      rw [Fx.spanTimes_two] at t4
      have hm := Fx.times_between a b n
      rw [Int.mul_comm n a]
      exact ⟨v1, v3, v2, hm, t1, t2, t3, _, _, _, t4, fun w => spanAdd_any a b a b w⟩

theorem frac_law (n d X Y : Int) (hd : 1 ≤ d) (hX : X = n / d) (hY : Y = -(-n / d)) : X * d ≤ n ∧ n ≤ Y * d ∧ Y - X ≤ 1 ∧ X ≤ Y ∧ (X = Y ↔ n.tmod d = 0) := by
  have h1 := Fx.floor_spec n d hd
  have h2 := Fx.ceil_spec n d hd
  have h3 := Fx.floor_le_ceil n d hd
  rw [← hX, ← hY] at h3
  rw [← hX] at h1
  rw [← hY] at h2
  have e := Int.emod_add_mul_ediv n d
  have l0 := Int.emod_nonneg n (show d ≠ 0 by omega)
  rw [← hX, Int.mul_comm] at e
  have h4 : Y - X ≤ 1 := by
    apply Int.le_of_not_gt; intro hc
    have : (X + 1) * d ≤ (Y - 1) * d := Int.mul_le_mul_of_nonneg_right (by omega) (by omega)
    omega
  refine ⟨h1.1, h2.1, h4, h3, ?_⟩
  rw [Fx.tmod_zero]
  constructor
  · rintro rfl; omega
  · intro hz
    apply Classical.byContradiction; intro hn
    have hYX : Y = X + 1 := by omega
    rw [hYX, show X + 1 - 1 = X by omega] at h2
    omega

theorem frac_pack (n d : Int) : ∃ (X Y : Int) (k : Bool),
    GivesS Try.prog 31 #[.int .i64 n, .int .i64 d] X Y k ∧
    GivesS Try.prog 32 #[.int .i64 n, .int .i64 d] X Y k ∧
    (k = false → X = 0 ∧ Y = 0) ∧ (k = true → ((-1073741824 ≤ n ∧ n ≤ 1073741824) ∧ 1 ≤ d ∧ d ≤ 1073741824) ∧ Fx.svalid X Y ∧
      X * d ≤ n * 268435456 ∧ n * 268435456 ≤ Y * d ∧ Y - X ≤ 1 ∧ (X = Y ↔ (n * 268435456).tmod d = 0)) := by
  refine ⟨_, _, _, fun w => fractionSpan_any n d w, fun w => s_fractionSpan_any n d w, ?_, ?_⟩
  · intro h
    rcases Fx.tri_cases ((-1073741824 ≤ n ∧ n ≤ 1073741824) ∧ 1 ≤ d ∧ d ≤ 1073741824) (n * 268435456 / d) (-(-(n * 268435456) / d)) with e | ⟨-, -, e⟩
    · have e : Fx.fractionSpan n d = _ := e
      rw [e]; exact ⟨rfl, rfl⟩
    · have e : Fx.fractionSpan n d = _ := e
      rw [e] at h; cases h
  · intro h
    rcases Fx.tri_cases ((-1073741824 ≤ n ∧ n ≤ 1073741824) ∧ 1 ≤ d ∧ d ≤ 1073741824) (n * 268435456 / d) (-(-(n * 268435456) / d)) with e | ⟨v1, v3, e⟩
    · have e : Fx.fractionSpan n d = _ := e
      rw [e] at h; cases h
    · have e : Fx.fractionSpan n d = _ := e
      rw [e]
      obtain ⟨g1, g2, g3, -, g4⟩ := frac_law (n * 268435456) d _ _ v1.2.1 rfl rfl
      exact ⟨v1, v3, g1, g2, g3, g4⟩

end Go.Proofs.Ytkogpcabemklhaa
