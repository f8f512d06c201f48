/-
  Plain laws on whole numbers: quotients rounded down and to the nearest number. No program in sight.
-/
namespace Fx

theorem tdiv_neg_rem (a b : Int) (hb : 1 ≤ b) (h : a.tmod b < 0) : a.tdiv b - 1 = a / b := by
  have e1 := Int.tmod_add_mul_tdiv a b
  have l : -b < a.tmod b := by
    have := Int.lt_tmod_of_pos a (show 0 < b by omega); omega
  have : a / b = a.tdiv b - 1 := by
    rw [Int.ediv_eq_iff_of_pos (by omega)]
    have h2 : (a.tdiv b - 1) * b = b * a.tdiv b - b := by rw [Int.sub_mul, Int.mul_comm]; omega
    rw [h2]; omega
  omega

theorem tdiv_pos_rem (a b : Int) (hb : 1 ≤ b) (h : 0 ≤ a.tmod b) : a.tdiv b = a / b := by
  have e1 := Int.tmod_add_mul_tdiv a b
  have l : a.tmod b < b := Int.tmod_lt_of_pos a (by omega)
  have : a / b = a.tdiv b := by
    rw [Int.ediv_eq_iff_of_pos (by omega)]
    have h2 : (a.tdiv b) * b = b * a.tdiv b := Int.mul_comm _ _
    rw [h2]; omega
  omega

def rnd (a b : Int) : Int := if 2 * (a % b) > b ∨ (2 * (a % b) = b ∧ (a / b) % 2 = 1) then a / b + 1 else a / b

theorem rnd_spec (a b : Int) (hb : 1 ≤ b) : -b ≤ 2 * (a - rnd a b * b) ∧ 2 * (a - rnd a b * b) ≤ b ∧
    ((2 * (a - rnd a b * b) = b ∨ 2 * (a - rnd a b * b) = -b) → rnd a b % 2 = 0) := by
  have e := Int.emod_add_mul_ediv a b
  have l0 := Int.emod_nonneg a (show b ≠ 0 by omega)
  have l1 := Int.emod_lt_of_pos a (show 0 < b by omega)
  unfold rnd
  split
  · rename_i h
    have h2 : (a / b + 1) * b = b * (a / b) + b := by rw [Int.add_mul, Int.mul_comm]; omega
    rw [h2]; omega
  · rename_i h
    have h2 : (a / b) * b = b * (a / b) := Int.mul_comm _ _
    rw [h2]; omega

theorem rnd_unique (a b q : Int) (hb : 1 ≤ b) (h1 : -b ≤ 2 * (a - q * b)) (h2 : 2 * (a - q * b) ≤ b)
    (h3 : (2 * (a - q * b) = b ∨ 2 * (a - q * b) = -b) → q % 2 = 0) : q = rnd a b := by
  obtain ⟨g1, g2, g3⟩ := rnd_spec a b hb
  generalize rnd a b = p at *
  have hd : (q - p) * b = q * b - p * b := Int.sub_mul _ _ _
  have c : q - p ≤ 1 := by
    apply Int.le_of_not_gt; intro hc
    have : 2 * b ≤ (q - p) * b := Int.mul_le_mul_of_nonneg_right (by omega) (by omega)
    omega
  have c' : -1 ≤ q - p := by
    apply Int.le_of_not_gt; intro hc
    have : (q - p) * b ≤ (-2) * b := Int.mul_le_mul_of_nonneg_right (by omega) (by omega)
    omega
  have : q - p = 1 ∨ q - p = 0 ∨ q - p = -1 := by omega
  rcases this with h | h | h
  · rw [h] at hd; omega
  · omega
  · rw [h] at hd; omega

theorem rnd_neg (a b : Int) (hb : 1 ≤ b) : rnd (-a) b = - rnd a b := by
  obtain ⟨g1, g2, g3⟩ := rnd_spec a b hb
  symm
  apply rnd_unique _ _ _ hb
  all_goals (rw [Int.neg_mul]; try omega)

theorem rnd_one (a : Int) : rnd a 1 = a := by
  symm; apply rnd_unique <;> omega

theorem rnd_mono (a c b : Int) (hb : 1 ≤ b) (h : a ≤ c) : rnd a b ≤ rnd c b := by
  obtain ⟨g1, g2, g3⟩ := rnd_spec a b hb
  obtain ⟨k1, k2, k3⟩ := rnd_spec c b hb
  generalize rnd a b = p at *
  generalize rnd c b = q at *
  apply Int.le_of_not_gt; intro hc
  have hd : (p - q) * b = p * b - q * b := Int.sub_mul _ _ _
  have : 1 * b ≤ (p - q) * b := Int.mul_le_mul_of_nonneg_right (by omega) (by omega)
  by_cases e : p - q = 1
  · rw [e] at hd; omega
  · have : 2 * b ≤ (p - q) * b := Int.mul_le_mul_of_nonneg_right (by omega) (by omega)
    omega

/-- an exact multiple rounds to itself -/
theorem rnd_mul (q b : Int) (hb : 1 ≤ b) : rnd (q * b) b = q := by
  symm; apply rnd_unique _ _ _ hb <;> omega
theorem tmod_zero (q m : Int) : q.tmod m = 0 ↔ q % m = 0 := Int.dvd_iff_tmod_eq_zero.symm.trans Int.dvd_iff_emod_eq_zero

theorem rnd_floor (a b : Int) : rnd a b = a / b ∨ rnd a b = a / b + 1 := by
  unfold rnd; split <;> simp

/-- is a number one to work with -/
def Work (n : Int) : Prop := -1152921504606846976 ≤ n ∧ n ≤ 1152921504606846976
instance (n : Int) : Decidable (Work n) := by unfold Work; infer_instance

def floorDiv (a b : Int) : Int := if Work a ∧ 1 ≤ b ∧ b ≤ 1152921504606846976 then a / b else 0
def roundDiv (a b : Int) : Int := if Work a ∧ 1 ≤ b ∧ b ≤ 1152921504606846976 then rnd a b else 0
def floorShift (n k : Int) : Int := if Work n ∧ 0 ≤ k ∧ k ≤ 60 then n / 2 ^ k.toNat else 0
def roundShift (n k : Int) : Int := if Work n ∧ 0 ≤ k ∧ k ≤ 60 then rnd n (2 ^ k.toNat) else 0
def wrapAngle (a : Int) : Int := if Work a then a % 65536 else -1
def ceilD (a b : Int) : Int := -((-a) / b)

theorem two_pow_le (k : Nat) (h : k ≤ 60) : (1 : Int) ≤ 2 ^ k ∧ (2 : Int) ^ k ≤ 1152921504606846976 := by
  have h1 : (1 : Nat) ≤ 2 ^ k := Nat.one_le_two_pow
  have h2 : 2 ^ k ≤ 2 ^ 60 := Nat.pow_le_pow_right (by decide) h
  have e : ((2 ^ k : Nat) : Int) = (2 : Int) ^ k := by push_cast; rfl
  have e6 : (2 : Nat) ^ 60 = 1152921504606846976 := by decide
  rw [← e]; omega

theorem floorDiv_in (a b : Int) (ha : Work a) (h1 : 1 ≤ b) (h2 : b ≤ 1152921504606846976) : floorDiv a b = a / b := if_pos ⟨ha, h1, h2⟩
theorem roundDiv_in (a b : Int) (ha : Work a) (h1 : 1 ≤ b) (h2 : b ≤ 1152921504606846976) : roundDiv a b = rnd a b := if_pos ⟨ha, h1, h2⟩
theorem floorShift_in (n k : Int) (hn : Work n) (h0 : 0 ≤ k) (h1 : k ≤ 60) : floorShift n k = n / 2 ^ k.toNat := if_pos ⟨hn, h0, h1⟩
theorem roundShift_in (n k : Int) (hn : Work n) (h0 : 0 ≤ k) (h1 : k ≤ 60) : roundShift n k = rnd n (2 ^ k.toNat) := if_pos ⟨hn, h0, h1⟩

theorem work_neg {a : Int} (h : Work a) : Work (-a) := by unfold Work at *; omega

/-- a quotient is no farther from nought than the number -/
theorem ediv_bounds (a b : Int) (hb : 1 ≤ b) (m : Int) (hm : 0 ≤ m) (h : -m ≤ a ∧ a ≤ m) : -m ≤ a / b ∧ a / b ≤ m := by
  have e := Int.emod_add_mul_ediv a b
  have l0 := Int.emod_nonneg a (show b ≠ 0 by omega)
  have l1 := Int.emod_lt_of_pos a (show 0 < b by omega)
  constructor
  · apply Int.le_of_not_gt; intro hc
    have : b * (a / b) ≤ b * (-m - 1) := Int.mul_le_mul_of_nonneg_left (by omega) (by omega)
    have h1 : b * (-m - 1) = -(b * m) - b := by rw [Int.mul_sub, Int.mul_neg]; omega
    have h2 : 1 * m ≤ b * m := Int.mul_le_mul_of_nonneg_right hb hm
    omega
  · apply Int.le_of_not_gt; intro hc
    have : b * (m + 1) ≤ b * (a / b) := Int.mul_le_mul_of_nonneg_left (by omega) (by omega)
    have h1 : b * (m + 1) = b * m + b := by rw [Int.mul_add]; omega
    have h2 : 1 * m ≤ b * m := Int.mul_le_mul_of_nonneg_right hb hm
    omega

theorem floorDiv_bounds (a b : Int) : -1152921504606846976 ≤ floorDiv a b ∧ floorDiv a b ≤ 1152921504606846976 := by
  unfold floorDiv
  split
  · rename_i h
    exact ediv_bounds a b h.2.1 _ (by omega) h.1
  · omega

end Fx
