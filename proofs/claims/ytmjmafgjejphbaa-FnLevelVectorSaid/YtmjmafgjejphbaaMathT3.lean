/-
  Plain laws on the sums for arc tangents: what holds at every term. No program in sight.
-/
import Derived.Test.YtmjmafgjejphbaaMathT2
namespace Fx

/-- What holds ahead of term number j: p is its power, l and h are the sums so far. -/
structure ArcInv (k : Int) (j : Nat) (p l h : Int) : Prop where
  few : j ≤ 15
  pos : 1 ≤ p
  top : p ≤ 281474976710656
  pow : (4 : Int) ^ j ≤ p
  first : (j = 0 ∧ p = k) ∨ (1 ≤ j ∧ k * k * k ≤ p)
  low : -(268435456 * ((j : Int) + 1)) ≤ l ∧ l ≤ 268435456 * ((j : Int) + 1)
  high : -(268435456 * ((j : Int) + 1)) ≤ h ∧ h ≤ 268435456 * ((j : Int) + 1)
  eq : arcGo k (20 - j) j p l h = arc k

theorem arc_first (k : Int) (h0 : 2 ≤ k) (h1 : k ≤ 65536) : ArcInv k 0 k (-1) 1 :=
  ⟨by omega, by omega, by omega, by show (1 : Int) ≤ k; omega, .inl ⟨rfl, rfl⟩, by omega, by omega, rfl⟩

theorem arc_size {k : Int} {j : Nat} {p l h : Int} (i : ArcInv k j p l h) : 1 ≤ (2 * (j : Int) + 1) * p ∧ (2 * (j : Int) + 1) * p ≤ 8725724278030336 := by
  have h1 : 1 * 1 ≤ (2 * (j : Int) + 1) * p := Int.mul_le_mul (by omega) i.pos (by omega) (by omega)
  have h2 : (2 * (j : Int) + 1) * p ≤ 31 * 281474976710656 := Int.mul_le_mul (by have := i.few; omega) i.top (by have := i.pos; omega) (by omega)
  omega
theorem arc_done {k : Int} {j : Nat} {p l h : Int} (i : ArcInv k j p l h) (hc : ¬ (2 * (j : Int) + 1) * p ≤ 268435456) : arc k = (l, h) := by
  have e := i.eq
  obtain ⟨f, hf⟩ : ∃ f, 20 - j = f + 1 := ⟨20 - j - 1, by have := i.few; omega⟩
  rw [hf, arcGo, if_neg hc] at e
  exact e.symm
theorem arc_power {k : Int} {j : Nat} {p l h : Int} (h0 : 2 ≤ k) (h1 : k ≤ 65536) (i : ArcInv k j p l h) (hc : (2 * (j : Int) + 1) * p ≤ 268435456) :
    j + 1 ≤ 15 ∧ 1 ≤ p * (k * k) ∧ p * (k * k) ≤ 281474976710656 ∧ (4 : Int) ^ (j + 1) ≤ p * (k * k) ∧ k * k * k ≤ p * (k * k) ∧ (0 ≤ k * k ∧ k * k ≤ 4294967296) ∧ (0 ≤ p * k ∧ p * k ≤ 281474976710656) := by
  have hp := i.pos
  have hkk : 2 * 2 ≤ k * k := Int.mul_le_mul h0 h0 (by omega) (by omega)
  have hkk2 : k * k ≤ 65536 * 65536 := Int.mul_le_mul h1 h1 (by omega) (by omega)
  have hj : 0 ≤ 2 * (j : Int) * p := Int.mul_nonneg (by omega) (by omega)
  have hpB : p ≤ 268435456 := by rw [Int.add_mul, Int.one_mul] at hc; omega
  have h4 : 4 * p ≤ (k * k) * p := Int.mul_le_mul_of_nonneg_right (by omega) (by omega)
  rw [Int.mul_comm (k * k) p] at h4
  have hj14 : j ≤ 14 := by
    apply Nat.le_of_not_lt; intro hlt
    have h15 : (4 : Int) ^ 15 ≤ 4 ^ j := by
      have := Nat.pow_le_pow_right (show 0 < 4 by decide) (show 15 ≤ j from hlt)
      exact_mod_cast this
    have := i.pow
    have e15 : (4 : Int) ^ 15 = 1073741824 := by decide
    omega
  have e4 : (4 : Int) ^ (j + 1) = 4 * 4 ^ j := by rw [Int.pow_succ, Int.mul_comm]
  have hpk : p * k ≤ p * (k * k) := by
    have : 1 * k ≤ k * k := Int.mul_le_mul_of_nonneg_right (by omega) (by omega)
    exact Int.mul_le_mul_of_nonneg_left (by omega) (by omega)
  have hpk0 : 0 ≤ p * k := Int.mul_nonneg (by omega) (by omega)
  rcases i.first with ⟨rfl, rfl⟩ | ⟨hj1, hk3⟩
  · have h5 : p * (p * p) ≤ 65536 * 4294967296 := Int.mul_le_mul h1 (by omega) (by omega) (by omega)
    refine ⟨by omega, by omega, by omega, ?_, by rw [Int.mul_assoc]; exact Int.le_refl _, by omega, by omega, by omega⟩
    rw [e4]; have := i.pow; omega
  · have h3p : 3 * p ≤ (2 * (j : Int) + 1) * p := Int.mul_le_mul_of_nonneg_right (by omega) (by omega)
    have hk : k ≤ 447 := by
      apply Int.le_of_not_gt; intro hg
      have q1 : 448 * 448 ≤ k * k := Int.mul_le_mul (by omega) (by omega) (by omega) (by omega)
      have q2 : (448 * 448) * 448 ≤ k * k * k := Int.mul_le_mul q1 (by omega) (by omega) (by omega)
      omega
    have q3 : k * k ≤ 447 * 447 := Int.mul_le_mul hk hk (by omega) (by omega)
    have q4 : p * (k * k) ≤ 89478486 * 199809 := Int.mul_le_mul (by omega) (by omega) (by omega) (by omega)
    refine ⟨by omega, by omega, by omega, ?_, by omega, by omega, by omega, by omega⟩
    rw [e4]; have := i.pow; omega
theorem arc_term {k : Int} {j : Nat} {p l h : Int} (i : ArcInv k j p l h) :
    (0 ≤ 268435456 / ((2 * (j : Int) + 1) * p) ∧ 268435456 / ((2 * (j : Int) + 1) * p) ≤ 268435456) ∧ 0 ≤ -(-268435456 / ((2 * (j : Int) + 1) * p)) ∧ -(-268435456 / ((2 * (j : Int) + 1) * p)) ≤ 268435456 := by
  have hs := arc_size i
  have a1 := ediv_bounds 268435456 ((2 * (j : Int) + 1) * p) (by omega) 268435456 (by omega) (by omega)
  have a2 := ediv_bounds (-268435456) ((2 * (j : Int) + 1) * p) (by omega) 268435456 (by omega) (by omega)
  have a3 : 0 ≤ 268435456 / ((2 * (j : Int) + 1) * p) := Int.ediv_nonneg (by omega) (by omega)
  have a4 := floor_le_ceil 268435456 ((2 * (j : Int) + 1) * p) (by omega)
  omega
theorem arc_even {k : Int} {j : Nat} {p l h : Int} (h0 : 2 ≤ k) (h1 : k ≤ 65536) (i : ArcInv k j p l h) (hc : (2 * (j : Int) + 1) * p ≤ 268435456) (hj : j % 2 = 0) :
    ArcInv k (j + 1) (p * (k * k)) (l + 268435456 / ((2 * (j : Int) + 1) * p)) (h + -(-268435456 / ((2 * (j : Int) + 1) * p))) := by
  obtain ⟨b1, b2, b3, b4, b5, -, -⟩ := arc_power h0 h1 i hc
  have ht := arc_term i
  have hl := i.low
  have hh := i.high
  have e := i.eq
  rw [show 20 - j = 20 - (j + 1) + 1 by omega, arcGo, if_pos hc, if_pos hj] at e
  exact ⟨b1, b2, b3, b4, .inr ⟨by omega, b5⟩, by push_cast; omega, by push_cast; omega, e⟩
theorem arc_odd {k : Int} {j : Nat} {p l h : Int} (h0 : 2 ≤ k) (h1 : k ≤ 65536) (i : ArcInv k j p l h) (hc : (2 * (j : Int) + 1) * p ≤ 268435456) (hj : ¬ j % 2 = 0) :
    ArcInv k (j + 1) (p * (k * k)) (l + -(-(-268435456 / ((2 * (j : Int) + 1) * p)))) (h + -(268435456 / ((2 * (j : Int) + 1) * p))) := by
  obtain ⟨b1, b2, b3, b4, b5, -, -⟩ := arc_power h0 h1 i hc
  have ht := arc_term i
  have hl := i.low
  have hh := i.high
  have e := i.eq
  rw [show 20 - j = 20 - (j + 1) + 1 by omega, arcGo, if_pos hc, if_neg hj] at e
  exact ⟨b1, b2, b3, b4, .inr ⟨by omega, b5⟩, by push_cast; omega, by push_cast; omega, e⟩

end Fx
