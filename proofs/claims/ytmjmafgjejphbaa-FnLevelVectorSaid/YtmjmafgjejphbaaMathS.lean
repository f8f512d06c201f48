/-
  Plain laws on spans: what the functions on spans compute. No program in sight.
-/
import Derived.Test.YtmjmafgjejphbaaMathC
namespace Fx

def most : Int := 1073741824
def svalid (l h : Int) : Prop := (-1073741824 ≤ l ∧ l ≤ 1073741824) ∧ (-1073741824 ≤ h ∧ h ≤ 1073741824) ∧ l ≤ h
instance (l h : Int) : Decidable (svalid l h) := by unfold svalid; infer_instance
/-- a span and true, if it is valid, and otherwise the zero value and false -/
def good (l h : Int) : Int × Int × Bool := if svalid l h then (l, h, true) else (0, 0, false)
theorem good_yes {l h : Int} (v : svalid l h) : good l h = (l, h, true) := if_pos v
theorem good_no {l h : Int} (v : ¬ svalid l h) : good l h = (0, 0, false) := if_neg v
theorem good_valid (l h : Int) : svalid (good l h).1 (good l h).2.1 := by
  by_cases v : svalid l h
  · rw [good_yes v]; exact v
  · rw [good_no v]; unfold svalid; decide

def min4 (a b c d : Int) : Int := min (min (min a b) c) d
def max4 (a b c d : Int) : Int := max (max (max a b) c) d

def spanAdd (a b c d : Int) : Int × Int × Bool := if svalid a b ∧ svalid c d then good (a + c) (b + d) else (0, 0, false)
def spanNeg (a b : Int) : Int × Int := if svalid a b then (-b, -a) else (0, 0)
def mulLo (a b c d : Int) : Int := min4 (a * c) (a * d) (b * c) (b * d) / 268435456
def mulHi (a b c d : Int) : Int := -(-max4 (a * c) (a * d) (b * c) (b * d) / 268435456)
def spanMul (a b c d : Int) : Int × Int × Bool := if svalid a b ∧ svalid c d then good (mulLo a b c d) (mulHi a b c d) else (0, 0, false)
def spanDiv (a b c d : Int) : Int × Int × Bool := if (svalid a b ∧ svalid c d) ∧ 0 ≤ a ∧ 0 < c then good (a * 268435456 / d) (-(-(b * 268435456) / c)) else (0, 0, false)
def spanTimes (a b n : Int) : Int × Int × Bool := if svalid a b ∧ -1000 ≤ n ∧ n ≤ 1000 then good (min (a * n) (b * n)) (max (a * n) (b * n)) else (0, 0, false)
def spanMeet (a b c d : Int) : Int × Int × Bool := if svalid a b ∧ svalid c d then good (max a c) (min b d) else (0, 0, false)
def fractionSpan (n d : Int) : Int × Int × Bool := if (-1073741824 ≤ n ∧ n ≤ 1073741824) ∧ 1 ≤ d ∧ d ≤ 1073741824 then good (n * 268435456 / d) (-(-(n * 268435456) / d)) else (0, 0, false)
/-- the root, rounded up -/
def ceilSqrt (n : Int) : Int := if isqrt n * isqrt n < n then isqrt n + 1 else isqrt n
def spanSqrt (a b : Int) : Int × Int × Bool := if svalid a b ∧ 0 ≤ a then (isqrt (a * 268435456), ceilSqrt (b * 268435456), true) else (0, 0, false)

theorem le_ceil_iff (a b q : Int) (hb : 1 ≤ b) : -(-a / b) ≤ q ↔ a ≤ q * b := by
  have e := Int.emod_add_mul_ediv (-a) b
  have l0 := Int.emod_nonneg (-a) (show b ≠ 0 by omega)
  have l1 := Int.emod_lt_of_pos (-a) (show 0 < b by omega)
  constructor
  · intro h
    have : (-q) * b ≤ (-a / b) * b := Int.mul_le_mul_of_nonneg_right (by omega) (by omega)
    rw [Int.neg_mul, Int.mul_comm (-a / b)] at this
    omega
  · intro h
    apply Int.le_of_not_gt; intro hc
    have : (-a / b + 1) * b ≤ (-q) * b := Int.mul_le_mul_of_nonneg_right (by omega) (by omega)
    rw [Int.neg_mul, Int.add_mul, Int.one_mul, Int.mul_comm (-a / b)] at this
    omega
theorem ceil_spec (a b : Int) (hb : 1 ≤ b) : a ≤ -(-a / b) * b ∧ (-(-a / b) - 1) * b < a := by
  have e := Int.emod_add_mul_ediv (-a) b
  have l0 := Int.emod_nonneg (-a) (show b ≠ 0 by omega)
  have l1 := Int.emod_lt_of_pos (-a) (show 0 < b by omega)
  rw [Int.sub_mul, Int.neg_mul, Int.mul_comm (-a / b), Int.one_mul]
  omega
theorem floor_spec (a b : Int) (hb : 1 ≤ b) : a / b * b ≤ a ∧ a < (a / b + 1) * b := by
  have e := Int.emod_add_mul_ediv a b
  have l0 := Int.emod_nonneg a (show b ≠ 0 by omega)
  have l1 := Int.emod_lt_of_pos a (show 0 < b by omega)
  rw [Int.add_mul, Int.one_mul, Int.mul_comm (a / b)]
  omega
theorem le_floor_iff (a b q : Int) (hb : 1 ≤ b) : q ≤ a / b ↔ q * b ≤ a := Int.le_ediv_iff_mul_le (by omega)
theorem floor_le_ceil (a b : Int) (hb : 1 ≤ b) : a / b ≤ -(-a / b) := by
  have e := Int.emod_add_mul_ediv a b
  have l0 := Int.emod_nonneg a (show b ≠ 0 by omega)
  have h := ceil_spec a b hb
  have f := floor_spec a b hb
  apply Int.le_of_not_gt; intro hc
  have : (-(-a / b) + 1) * b ≤ a / b * b := Int.mul_le_mul_of_nonneg_right (by omega) (by omega)
  rw [Int.add_mul, Int.one_mul] at this
  omega

theorem svalid_prod {a b c d : Int} (h : svalid a b) (k : svalid c d) :
    (-1152921504606846976 ≤ a * c ∧ a * c ≤ 1152921504606846976) ∧ (-1152921504606846976 ≤ a * d ∧ a * d ≤ 1152921504606846976) ∧ (-1152921504606846976 ≤ b * c ∧ b * c ≤ 1152921504606846976) ∧ (-1152921504606846976 ≤ b * d ∧ b * d ≤ 1152921504606846976) := by
  unfold svalid at h k
  have h1 := mul_bounds' (a := a) (b := c) h.1 k.1
  have h2 := mul_bounds' (a := a) (b := d) h.1 k.2.1
  have h3 := mul_bounds' (a := b) (b := c) h.2.1 k.1
  have h4 := mul_bounds' (a := b) (b := d) h.2.1 k.2.1
  refine ⟨by omega, by omega, by omega, by omega⟩

theorem min4_le (a b c d : Int) : min4 a b c d ≤ a ∧ min4 a b c d ≤ b ∧ min4 a b c d ≤ c ∧ min4 a b c d ≤ d := by unfold min4; omega
theorem le_max4 (a b c d : Int) : a ≤ max4 a b c d ∧ b ≤ max4 a b c d ∧ c ≤ max4 a b c d ∧ d ≤ max4 a b c d := by unfold max4; omega
theorem le_min4 {a b c d x : Int} (h : x ≤ a ∧ x ≤ b ∧ x ≤ c ∧ x ≤ d) : x ≤ min4 a b c d := by unfold min4; omega
theorem max4_le {a b c d x : Int} (h : a ≤ x ∧ b ≤ x ∧ c ≤ x ∧ d ≤ x) : max4 a b c d ≤ x := by unfold max4; omega
theorem min4_le_max4 (a b c d : Int) : min4 a b c d ≤ max4 a b c d := by have := min4_le a b c d; have := le_max4 a b c d; omega

/-- a product with one factor between two numbers is between the products with these -/
theorem between_mul {a b n m : Int} (h : a ≤ n ∧ n ≤ b) : (a * m ≤ n * m ∧ n * m ≤ b * m) ∨ (b * m ≤ n * m ∧ n * m ≤ a * m) := by
  rcases Int.le_total 0 m with hm | hm
  · exact .inl ⟨Int.mul_le_mul_of_nonneg_right h.1 hm, Int.mul_le_mul_of_nonneg_right h.2 hm⟩
  · exact .inr ⟨Int.mul_le_mul_of_nonpos_right h.2 hm, Int.mul_le_mul_of_nonpos_right h.1 hm⟩
theorem bilinear {a b c d n m : Int} (h : a ≤ n ∧ n ≤ b) (k : c ≤ m ∧ m ≤ d) : min4 (a * c) (a * d) (b * c) (b * d) ≤ n * m ∧ n * m ≤ max4 (a * c) (a * d) (b * c) (b * d) := by
  have h1 := between_mul (m := m) h
  have h2 := between_mul (m := a) k
  have h3 := between_mul (m := b) k
  rw [Int.mul_comm c a, Int.mul_comm m a, Int.mul_comm d a] at h2
  rw [Int.mul_comm c b, Int.mul_comm m b, Int.mul_comm d b] at h3
  have l1 := min4_le (a * c) (a * d) (b * c) (b * d)
  have l2 := le_max4 (a * c) (a * d) (b * c) (b * d)
  omega
theorem mul_lo_le (a b c d x : Int) (h : min4 (a * c) (a * d) (b * c) (b * d) ≤ x) : mulLo a b c d * 268435456 ≤ x := by
  have := (floor_spec (min4 (a * c) (a * d) (b * c) (b * d)) 268435456 (by omega)).1
  unfold mulLo; omega
theorem mul_hi_ge (a b c d x : Int) (h : x ≤ max4 (a * c) (a * d) (b * c) (b * d)) : x ≤ mulHi a b c d * 268435456 := by
  have := (ceil_spec (max4 (a * c) (a * d) (b * c) (b * d)) 268435456 (by omega)).1
  unfold mulHi; omega
theorem mul_lo_hi (a b c d : Int) : mulLo a b c d ≤ mulHi a b c d := by
  have h1 := mul_lo_le a b c d _ (Int.le_refl _)
  have h2 := mul_hi_ge a b c d _ (Int.le_refl _)
  have := min4_le_max4 (a * c) (a * d) (b * c) (b * d)
  omega
theorem mul_comm4 (a b c d : Int) : spanMul a b c d = spanMul c d a b := by
  unfold spanMul mulLo mulHi
  rw [Int.mul_comm c a, Int.mul_comm c b, Int.mul_comm d a, Int.mul_comm d b]
  have e1 : min4 (a * c) (a * d) (b * c) (b * d) = min4 (a * c) (b * c) (a * d) (b * d) := by unfold min4; omega
  have e2 : max4 (a * c) (a * d) (b * c) (b * d) = max4 (a * c) (b * c) (a * d) (b * d) := by unfold max4; omega
  rw [e1, e2]
  by_cases h : svalid a b ∧ svalid c d
  · rw [if_pos h, if_pos ⟨h.2, h.1⟩]
  · rw [if_neg h, if_neg (fun k => h ⟨k.2, k.1⟩)]

theorem tri_cases (C : Prop) [Decidable C] (x y : Int) : (if C then good x y else (0, 0, false)) = (0, 0, false) ∨ (C ∧ svalid x y ∧ (if C then good x y else (0, 0, false)) = (x, y, true)) := by
  by_cases h : C
  · rw [if_pos h]
    by_cases v : svalid x y
    · exact .inr ⟨h, v, good_yes v⟩
    · exact .inl (good_no v)
  · exact .inl (if_neg h)
theorem svalid_neg {a b : Int} (h : svalid a b) : svalid (-b) (-a) := by unfold svalid at *; omega
theorem spanAdd_comm (a b c d : Int) : spanAdd c d a b = spanAdd a b c d := by
  unfold spanAdd
  rw [Int.add_comm c a, Int.add_comm d b]
  by_cases h : svalid a b ∧ svalid c d
  · rw [if_pos h, if_pos ⟨h.2, h.1⟩]
  · rw [if_neg h, if_neg (fun k => h ⟨k.2, k.1⟩)]
theorem spanMeet_comm (a b c d : Int) : spanMeet c d a b = spanMeet a b c d := by
  unfold spanMeet
  rw [Int.max_comm c a, Int.min_comm d b]
  by_cases h : svalid a b ∧ svalid c d
  · rw [if_pos h, if_pos ⟨h.2, h.1⟩]
  · rw [if_neg h, if_neg (fun k => h ⟨k.2, k.1⟩)]
theorem spanTimes_one {a b : Int} (h : svalid a b) : spanTimes a b 1 = (a, b, true) := by
  have h' := h
  unfold svalid at h'
  unfold spanTimes
  rw [Int.mul_one, Int.mul_one, if_pos ⟨h, by omega⟩, show min a b = a by omega, show max a b = b by omega, good_yes h]
theorem spanTimes_neg {a b : Int} (h : svalid a b) : spanTimes a b (-1) = (-b, -a, true) := by
  have h' := h
  unfold svalid at h'
  unfold spanTimes
  rw [Int.mul_neg, Int.mul_neg, Int.mul_one, Int.mul_one, if_pos ⟨h, by omega⟩, show min (-a) (-b) = -b by omega, show max (-a) (-b) = -a by omega, good_yes (svalid_neg h)]
theorem spanTimes_two (a b : Int) : spanTimes a b 2 = spanAdd a b a b := by
  unfold spanTimes spanAdd
  by_cases h : svalid a b
  · have h' := h
    unfold svalid at h'
    rw [if_pos ⟨h, by omega⟩, if_pos ⟨h, h⟩, show min (a * 2) (b * 2) = a + a by omega, show max (a * 2) (b * 2) = b + b by omega]
  · rw [if_neg (fun k => h k.1), if_neg (fun k => h k.1)]
theorem times_between (a b n : Int) : min (a * n) (b * n) ≤ a * n ∧ a * n ≤ max (a * n) (b * n) := by omega
theorem spanDiv_one {a b : Int} (h : svalid a b) (h0 : 0 ≤ a) : spanDiv a b 268435456 268435456 = (a, b, true) := by
  have h1 : svalid 268435456 268435456 := by unfold svalid; omega
  unfold spanDiv
  rw [if_pos ⟨⟨h, h1⟩, h0, by omega⟩, show a * 268435456 / 268435456 = a by omega, show -(-(b * 268435456) / 268435456) = b by omega, good_yes h]

end Fx
