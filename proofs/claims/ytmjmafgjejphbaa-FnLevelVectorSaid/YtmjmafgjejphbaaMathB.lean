/-
  Plain laws on formats and stored numbers. No program in sight.
-/
import Derived.Test.YtmjmafgjejphbaaMathA
namespace Fx

/-- the number nearest to n that a format can store -/
def cut (W P n : Int) : Int := if n < -2 ^ (W + P).toNat then -2 ^ (W + P).toNat else if 2 ^ (W + P).toNat - 1 < n then 2 ^ (W + P).toNat - 1 else n

theorem cut_low {W P n : Int} (h : n < -2 ^ (W + P).toNat) : cut W P n = -2 ^ (W + P).toNat := if_pos h
theorem cut_high {W P n : Int} (h : 2 ^ (W + P).toNat - 1 < n) (hp : (1 : Int) ≤ 2 ^ (W + P).toNat) : cut W P n = 2 ^ (W + P).toNat - 1 := by
  unfold cut; rw [if_neg (by omega), if_pos h]
theorem cut_in {W P n : Int} (h : -2 ^ (W + P).toNat ≤ n ∧ n ≤ 2 ^ (W + P).toNat - 1) : cut W P n = n := by
  unfold cut; rw [if_neg (by omega), if_neg (by omega)]

/-- what a stored number of the format with P parts stands for, stored with Q parts -/
def toFmt (n P Q : Int) : Int := if P ≤ Q then n * 2 ^ (Q - P).toNat else rnd n (2 ^ (P - Q).toNat)
def fracOf (P num den : Int) : Int := rnd (num * 2 ^ P.toNat) den
def mulOf (P a b : Int) : Int := rnd (a * b) (2 ^ P.toNat)
def divOf (P a b : Int) : Int := if b < 0 then rnd (-a * 2 ^ P.toNat) (-b) else rnd (a * 2 ^ P.toNat) b

theorem pow_le_pow {k n : Nat} (h : k ≤ n) : (2 : Int) ^ k ≤ 2 ^ n := by
  have := Nat.pow_le_pow_right (show 0 < 2 by decide) h
  exact_mod_cast this
theorem pow_16 {k : Nat} (h : k ≤ 16) : (1 : Int) ≤ 2 ^ k ∧ (2 : Int) ^ k ≤ 65536 := ⟨(two_pow_le k (by omega)).1, pow_le_pow h⟩
theorem pow_28 {k : Nat} (h : k ≤ 28) : (1 : Int) ≤ 2 ^ k ∧ (2 : Int) ^ k ≤ 268435456 := ⟨(two_pow_le k (by omega)).1, pow_le_pow h⟩

theorem mul_bounds {a b A B : Int} (ha : -A ≤ a ∧ a ≤ A) (hb : 0 ≤ b ∧ b ≤ B) : -(A * B) ≤ a * b ∧ a * b ≤ A * B := by
  have hA : 0 ≤ A := by omega
  have h1 : a * b ≤ A * b := Int.mul_le_mul_of_nonneg_right ha.2 hb.1
  have h2 : -A * b ≤ a * b := Int.mul_le_mul_of_nonneg_right ha.1 hb.1
  have h3 : A * b ≤ A * B := Int.mul_le_mul_of_nonneg_left hb.2 hA
  rw [Int.neg_mul] at h2
  omega
theorem mul_bounds' {a b A B : Int} (ha : -A ≤ a ∧ a ≤ A) (hb : -B ≤ b ∧ b ≤ B) : -(A * B) ≤ a * b ∧ a * b ≤ A * B := by
  by_cases h : 0 ≤ b
  · exact mul_bounds ha ⟨h, hb.2⟩
  · have := mul_bounds ha (b := -b) (B := B) ⟨by omega, by omega⟩
    rw [Int.mul_neg] at this; omega

end Fx
