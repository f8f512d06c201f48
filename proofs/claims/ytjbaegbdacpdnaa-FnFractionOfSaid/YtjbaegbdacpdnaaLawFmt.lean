/-
  What the laws on stored numbers need of the functions, each as one bundle.
-/
import Derived.Test.YtjbaegbdacpdnaaFmtDiv
import Derived.Test.YtjbaegbdacpdnaaFmtTo
import Derived.Test.YtjbaegbdacpdnaaFmtFrac
import Derived.Test.YtjbaegbdacpdnaaDraws2
import Derived.Test.YtjbaegbdacpdnaaDraws3
import Derived.Test.YtjbaegbdacpdnaaHead
namespace Go.Proofs.Ytjbaegbdacpdnaa
open Go.RowKit

/-- A number can be stored in a valid format. -/
abbrev Fits (W P n : Int) : Prop := ((1 ≤ W ∧ W ≤ 12) ∧ 0 ≤ P ∧ P ≤ 16) ∧ -2 ^ (W + P).toNat ≤ n ∧ n ≤ 2 ^ (W + P).toNat - 1
/-- A function returns a number and a Bool and makes blocks of its own alone. -/
abbrev Gives (P : Program) (f : FuncId) (args : Array Value) (x : Int) (k : Bool) : Prop := ∀ w : World, Calls P f args w fun e w' => e = .returned (.tuple #[.int .i64 x, .bool k]) ∧ Below w.heap.size w w'

theorem fits_cut {W P : Int} (h : (1 ≤ W ∧ W ≤ 12) ∧ 0 ≤ P ∧ P ≤ 16) (n : Int) : Fits W P (Fx.cut W P n) := ⟨h, Fx.cut_bounds W P n⟩
theorem cut_same {W P n : Int} (h : (Fx.cut W P n == n) = true) : Fx.cut W P n = n := eq_of_beq h
theorem fits_work {W P n : Int} (h : Fits W P n) : (-268435456 ≤ n ∧ n ≤ 268435455) ∧ (1 ≤ (2 : Int) ^ P.toNat ∧ (2 : Int) ^ P.toNat ≤ 65536) := by
  have hp := Fx.pow_28 (k := (W + P).toNat) (by have := h.1; omega)
  have := Fx.pow_16 (k := P.toNat) (by have := h.1; omega)
  obtain ⟨h1, h2⟩ := h
  refine ⟨by omega, this⟩

theorem alive_b (w : World) : Calls Try.prog 26 #[] w fun e w' => e = .returned (.bool true) ∧ Below w.heap.size w w' := (alive_any w).mono fun _ _ ⟨h1, h2⟩ => ⟨h1, h2 ▸ Below.refl _ _⟩

theorem mul_pack (W P a b : Int) (ha : Fits W P a) (hb : Fits W P b) : ∃ (x : Int) (k : Bool),
    Gives Try.prog 33 #[.agg #[.int .i64 W, .int .i64 P], .int .i64 a, .int .i64 b] x k ∧
    Gives Try.prog 33 #[.agg #[.int .i64 W, .int .i64 P], .int .i64 b, .int .i64 a] x k ∧
    Gives Try.prog 33 #[.agg #[.int .i64 W, .int .i64 P], .int .i64 a, .int .i64 0] 0 true ∧
    Gives Try.prog 32 #[.agg #[.int .i64 W, .int .i64 P], .int .i64 a, .int .i64 b] x k ∧
    Fits W P x ∧ (k = true → -2 ^ P.toNat ≤ 2 * (a * b - x * 2 ^ P.toNat) ∧ 2 * (a * b - x * 2 ^ P.toNat) ≤ 2 ^ P.toNat) := by
  have h0 : Fits W P 0 := ⟨ha.1, by have := Fx.one_le_pow (W + P).toNat; omega⟩
  refine ⟨Fx.cut W P (Fx.mulOf P a b), Fx.cut W P (Fx.mulOf P a b) == Fx.mulOf P a b, fun w => mulStored_yes W P a b w ha hb, ?_, ?_, fun w => s_mulStored_yes W P a b w ha hb, fits_cut ha.1 _, ?_⟩
  · rw [Fx.mulOf_comm]; exact fun w => mulStored_yes W P b a w hb ha
  · have h := fun w => mulStored_yes W P a 0 w ha h0
    rw [Fx.mulOf_zero, Fx.cut_in h0.2] at h
    exact h
  · intro hk
    rw [cut_same hk]
    obtain ⟨g1, g2, -⟩ := Fx.rnd_spec (a * b) (2 ^ P.toNat) (Fx.one_le_pow _)
    exact ⟨g1, g2⟩

theorem div_pack (W P a b : Int) (h0 : b ≠ 0) (ha : Fits W P a) (hb : Fits W P b) : ∃ (x : Int) (k : Bool),
    Gives Try.prog 42 #[.agg #[.int .i64 W, .int .i64 P], .int .i64 a, .int .i64 b] x k ∧
    Gives Try.prog 42 #[.agg #[.int .i64 W, .int .i64 P], .int .i64 b, .int .i64 b] (2 ^ P.toNat) true ∧
    Gives Try.prog 41 #[.agg #[.int .i64 W, .int .i64 P], .int .i64 a, .int .i64 b] x k ∧
    Fits W P x ∧ (k = true → (b < 0 → b ≤ 2 * (a * 2 ^ P.toNat - x * b) ∧ 2 * (a * 2 ^ P.toNat - x * b) ≤ -b) ∧ (0 < b → -b ≤ 2 * (a * 2 ^ P.toNat - x * b) ∧ 2 * (a * 2 ^ P.toNat - x * b) ≤ b)) := by
  have h1 := Fx.one_fits (W := W) (P := P) ha.1.1.1 ha.1.2.1
  have h2 := Fx.one_le_pow P.toNat
  have h3 := Fx.one_le_pow (W + P).toNat
  refine ⟨Fx.cut W P (Fx.divOf P a b), Fx.cut W P (Fx.divOf P a b) == Fx.divOf P a b, fun w => divStored_yes W P a b w h0 ha hb, ?_, fun w => s_divStored_yes W P a b w h0 ha hb, fits_cut ha.1 _, ?_⟩
  · have h := fun w => divStored_yes W P b b w h0 hb hb
    rw [Fx.divOf_self P b h0, Fx.cut_in (by omega), beq_self_eq_true] at h
    exact h
  · intro hk
    rw [cut_same hk]
    exact Fx.divOf_spec P a b

theorem oneOf_pack (W P n : Int) (hv : (1 ≤ W ∧ W ≤ 12) ∧ 0 ≤ P ∧ P ≤ 16) (hn : 0 ≤ n ∧ n ≤ 2 ^ P.toNat) :
    Gives Try.prog 33 #[.agg #[.int .i64 W, .int .i64 P], .int .i64 n, .int .i64 (2 ^ P.toNat)] n true ∧
    Gives Try.prog 42 #[.agg #[.int .i64 W, .int .i64 P], .int .i64 n, .int .i64 (2 ^ P.toNat)] n true := by
  have h1 := Fx.one_fits (W := W) (P := P) hv.1.1 hv.2.1
  have h2 := Fx.one_le_pow P.toNat
  have h3 := Fx.one_le_pow (W + P).toNat
  have f1 : Fits W P (2 ^ P.toNat) := ⟨hv, by omega⟩
  have f2 : Fits W P n := ⟨hv, by omega⟩
  constructor
  · have h := fun w => mulStored_yes W P n (2 ^ P.toNat) w f2 f1
    rw [Fx.mulOf_one, Fx.cut_in f2.2, beq_self_eq_true] at h
    exact h
  · have h := fun w => divStored_yes W P n (2 ^ P.toNat) w (by omega) f2 f1
    rw [Fx.divOf_one, Fx.cut_in f2.2, beq_self_eq_true] at h
    exact h

end Go.Proofs.Ytjbaegbdacpdnaa
