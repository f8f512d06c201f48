/-
  What the laws on quotients, roots and powers of spans need of the functions, bundled.
-/
import Derived.Test.YtfllhncilfkamaaLawSpan
import Derived.Test.YtfllhncilfkamaaSpanDiv
import Derived.Test.YtfllhncilfkamaaSpanSqrt
import Derived.Test.YtfllhncilfkamaaSpanPower
import Derived.Test.YtfllhncilfkamaaTwoPower
namespace Go.Proofs.Ytfllhncilfkamaa
open Go.RowKit

theorem div_pack (a b c d : Int) : ∃ (X Y : Int) (k : Bool),
    GivesS Try.prog 30 #[.agg #[.int .i64 a, .int .i64 b], .agg #[.int .i64 c, .int .i64 d]] X Y k ∧
    GivesS Try.prog 31 #[.agg #[.int .i64 a, .int .i64 b], .agg #[.int .i64 c, .int .i64 d]] X Y k ∧
    (k = false → X = 0 ∧ Y = 0) ∧ (k = true → (Fx.svalid a b ∧ Fx.svalid c d ∧ Fx.svalid X Y) ∧ X * d ≤ a * 268435456 ∧ b * 268435456 ≤ Y * c ∧
      GivesS Try.prog 30 #[.agg #[.int .i64 a, .int .i64 b], .agg #[.int .i64 268435456, .int .i64 268435456]] a b true ∧
      ∃ (p q : Int) (t : Bool), GivesS Try.prog 21 #[.agg #[.int .i64 X, .int .i64 Y], .agg #[.int .i64 c, .int .i64 d]] p q t ∧ (t = true → p ≤ a ∧ b ≤ q)) := by
  obtain ⟨X, Y, k, e⟩ : ∃ (X Y : Int) (k : Bool), Fx.spanDiv a b c d = (X, Y, k) := ⟨_, _, _, rfl⟩
  have h1 := fun w => spanDiv_any a b c d w
  have h2 := fun w => s_spanDiv_any a b c d w
  rw [e] at h1 h2
  refine ⟨X, Y, k, h1, h2, ?_, ?_⟩
  · rintro rfl
    rcases Fx.tri_cases ((Fx.svalid a b ∧ Fx.svalid c d) ∧ 0 ≤ a ∧ 0 < c) (a * 268435456 / d) (-(-(b * 268435456) / c)) with e' | ⟨-, -, e'⟩
    · have e' : Fx.spanDiv a b c d = _ := e'
      rw [e] at e'
      simp only [Prod.mk.injEq, and_true] at e'
      exact e'
    · have e' : Fx.spanDiv a b c d = _ := e'
      rw [e] at e'
      simp at e'
  · rintro rfl
    obtain ⟨v1, v2, v3, x0, a0, c0, g1, g2⟩ := Fx.div_law e
    refine ⟨⟨v1, v2, v3⟩, g1, g2, ?_, ?_⟩
    · have h3 := fun w => spanDiv_any a b 268435456 268435456 w
      rw [Fx.spanDiv_one v1 a0] at h3
      exact h3
    · obtain ⟨p, q, t, e3⟩ : ∃ (p q : Int) (t : Bool), Fx.spanMul X Y c d = (p, q, t) := ⟨_, _, _, rfl⟩
      have h4 := fun w => spanMul_any X Y c d w
      rw [e3] at h4
      refine ⟨p, q, t, h4, ?_⟩
      rintro rfl
      exact Fx.quot_law e e3

theorem sqrt_pack (a b : Int) : ∃ (X Y : Int) (k : Bool),
    GivesS Try.prog 34 #[.agg #[.int .i64 a, .int .i64 b]] X Y k ∧ GivesS Try.prog 33 #[.agg #[.int .i64 a, .int .i64 b]] X Y k ∧
    (k = false → X = 0 ∧ Y = 0 ∧ (¬ Fx.svalid a b ∨ a < 0)) ∧
    (k = true → (Fx.svalid a b ∧ 0 ≤ a ∧ Fx.svalid X Y) ∧ 0 ≤ X ∧ X * X ≤ a * 268435456 ∧ a * 268435456 < (X + 1) * (X + 1) ∧ b * 268435456 ≤ Y * Y ∧ (Y = 0 ∨ (Y - 1) * (Y - 1) < b * 268435456)) ∧
    ∃ (p q : Int) (t : Bool), GivesS Try.prog 21 #[.agg #[.int .i64 a, .int .i64 b], .agg #[.int .i64 a, .int .i64 b]] p q t ∧
      (k = true → t = true → ∃ U V : Int, GivesS Try.prog 34 #[.agg #[.int .i64 p, .int .i64 q]] U V true ∧ U ≤ a ∧ b ≤ V) := by
  obtain ⟨X, Y, k, e⟩ : ∃ (X Y : Int) (k : Bool), Fx.spanSqrt a b = (X, Y, k) := ⟨_, _, _, rfl⟩
  have h1 := fun w => spanSqrt_any a b w
  have h2 := fun w => s_spanSqrt_any a b w
  rw [e] at h1 h2
  refine ⟨X, Y, k, h1, h2, ?_, ?_, ?_⟩
  · rintro rfl
    exact Fx.sqrt_no e
  · rintro rfl
    obtain ⟨v1, a0, v3, g0, g1, g2, g3, g4⟩ := Fx.sqrt_law e
    exact ⟨⟨v1, a0, v3⟩, g0, g1, g2, g3, g4⟩
  · obtain ⟨p, q, t, e3⟩ : ∃ (p q : Int) (t : Bool), Fx.spanMul a b a b = (p, q, t) := ⟨_, _, _, rfl⟩
    have h4 := fun w => spanMul_any a b a b w
    rw [e3] at h4
    refine ⟨p, q, t, h4, ?_⟩
    rintro rfl rfl
    obtain ⟨v1, a0, -⟩ := Fx.sqrt_law e
    obtain ⟨U, V, e5, -, u1, u2⟩ := Fx.square_law v1 a0 e3
    have h6 := fun w => spanSqrt_any p q w
    rw [e5] at h6
    exact ⟨U, V, h6, u1, u2⟩

theorem power_pack (a b n : Int) : ∃ (X Y : Int) (k : Bool),
    GivesS Try.prog 36 #[.agg #[.int .i64 a, .int .i64 b], .int .i64 n] X Y k ∧ GivesS Try.prog 35 #[.agg #[.int .i64 a, .int .i64 b], .int .i64 n] X Y k ∧
    (k = false → X = 0 ∧ Y = 0) ∧
    (k = true → (0 ≤ n ∧ n ≤ 20) ∧ Fx.svalid X Y ∧ GivesS Try.prog 36 #[.agg #[.int .i64 a, .int .i64 b], .int .i64 0] 268435456 268435456 true ∧
      ∃ (p q : Int) (t : Bool) (U V : Int) (m : Bool), GivesS Try.prog 21 #[.agg #[.int .i64 X, .int .i64 Y], .agg #[.int .i64 a, .int .i64 b]] p q t ∧
        GivesS Try.prog 36 #[.agg #[.int .i64 a, .int .i64 b], .int .i64 (n + 1)] U V m ∧ (n ≠ 20 → U = p ∧ V = q ∧ m = t)) := by
  obtain ⟨X, Y, k, e⟩ : ∃ (X Y : Int) (k : Bool), Fx.spanPower a b n = (X, Y, k) := ⟨_, _, _, rfl⟩
  have h1 := fun w => spanPower_any a b n w
  have h2 := fun w => s_spanPower_any a b n w
  rw [e] at h1 h2
  refine ⟨X, Y, k, h1, h2, ?_, ?_⟩
  · rintro rfl
    unfold Fx.spanPower at e
    split at e
    · have h3 := Fx.spanPow_no a b n.toNat (by rw [e])
      rw [e] at h3
      simp only [Prod.mk.injEq, and_true] at h3
      exact h3
    · simp only [Prod.mk.injEq, and_true] at e
      exact ⟨e.1.symm, e.2.symm⟩
  · rintro rfl
    have e0 := e
    unfold Fx.spanPower at e
    split at e
    · rename_i hv
      obtain ⟨v, hn⟩ := hv
      have v3 := Fx.spanPow_valid a b n.toNat
      rw [e] at v3
      have h5 := fun w => spanPower_any a b 0 w
      have e5 : Fx.spanPower a b 0 = (268435456, 268435456, true) := by unfold Fx.spanPower; rw [if_pos ⟨v, by omega⟩]; rfl
      rw [e5] at h5
      obtain ⟨p, q, t, e6⟩ : ∃ (p q : Int) (t : Bool), Fx.spanMul X Y a b = (p, q, t) := ⟨_, _, _, rfl⟩
      obtain ⟨U, V, m, e7⟩ : ∃ (U V : Int) (m : Bool), Fx.spanPower a b (n + 1) = (U, V, m) := ⟨_, _, _, rfl⟩
      have h6 := fun w => spanMul_any X Y a b w
      have h7 := fun w => spanPower_any a b (n + 1) w
      rw [e6] at h6
      rw [e7] at h7
      refine ⟨hn, v3, h5, p, q, t, U, V, m, h6, h7, fun hne => ?_⟩
      have e8 : Fx.spanPower a b (n + 1) = Fx.spanPow a b (n.toNat + 1) := by
        unfold Fx.spanPower
        rw [if_pos ⟨v, by omega⟩, show (n + 1).toNat = n.toNat + 1 by omega]
      rw [Fx.spanPow_step a b n.toNat (by rw [e]), e, e6, e7] at e8
      simp only [Prod.mk.injEq] at e8
      exact e8
    · simp at e

end Go.Proofs.Ytfllhncilfkamaa
