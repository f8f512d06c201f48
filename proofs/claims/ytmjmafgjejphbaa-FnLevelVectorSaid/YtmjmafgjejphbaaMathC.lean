/-
  Plain laws on stored numbers: scaling, conversions, products, quotients, roots. No program in sight.
-/
import Derived.Test.YtmjmafgjejphbaaMathB
namespace Fx

theorem one_le_pow (k : Nat) : (1 : Int) ≤ 2 ^ k := by have := Nat.one_le_two_pow (n := k); exact_mod_cast this
theorem pow_split (a b : Nat) : (2 : Int) ^ (a + b) = 2 ^ a * 2 ^ b := by have := Nat.pow_add 2 a b; exact_mod_cast this

theorem rnd_scale (k a b : Int) (hk : 1 ≤ k) (hb : 1 ≤ b) : rnd (a * k) (b * k) = rnd a b := by
  symm
  obtain ⟨g1, g2, g3⟩ := rnd_spec a b hb
  have e : a * k - rnd a b * (b * k) = (a - rnd a b * b) * k := by rw [Int.sub_mul, Int.mul_assoc]
  have h1 : (-b) * k ≤ (2 * (a - rnd a b * b)) * k := Int.mul_le_mul_of_nonneg_right g1 (by omega)
  have h2 : (2 * (a - rnd a b * b)) * k ≤ b * k := Int.mul_le_mul_of_nonneg_right g2 (by omega)
  rw [Int.neg_mul] at h1
  rw [Int.mul_assoc] at h1 h2
  have hbk : 1 * 1 ≤ b * k := Int.mul_le_mul hb hk (by omega) (by omega)
  refine rnd_unique _ _ _ (by omega) (by rw [e]; omega) (by rw [e]; omega) ?_
  rw [e]
  intro h
  apply g3
  rcases h with h | h
  · left
    have : (2 * (a - rnd a b * b)) * k = b * k := by rw [Int.mul_assoc]; exact h
    exact Int.eq_of_mul_eq_mul_right (by omega) this
  · right
    have : (2 * (a - rnd a b * b)) * k = (-b) * k := by rw [Int.mul_assoc, Int.neg_mul]; exact h
    exact Int.eq_of_mul_eq_mul_right (by omega) this

theorem toFmt_same (n P : Int) : toFmt n P P = n := by
  unfold toFmt
  rw [if_pos (Int.le_refl _), Int.sub_self]
  exact Int.mul_one n

theorem toFmt_zero (n P : Int) (hP : 0 ≤ P) : toFmt n P 0 = rnd n (2 ^ P.toNat) := by
  by_cases h : P ≤ 0
  · obtain rfl : P = 0 := by omega
    rw [toFmt_same]; exact (rnd_one n).symm
  · unfold toFmt
    rw [if_neg h, Int.sub_zero]

theorem toFmt_back (n P Q : Int) (h : P ≤ Q) : toFmt (toFmt n P Q) Q P = n := by
  have e : toFmt n P Q = n * 2 ^ (Q - P).toNat := if_pos h
  by_cases h2 : Q ≤ P
  · obtain rfl : P = Q := by omega
    rw [toFmt_same, toFmt_same]
  · rw [e]; unfold toFmt; rw [if_neg h2]; exact rnd_mul _ _ (one_le_pow _)

theorem toFmt_fits {n W P V Q : Int} (hWV : W ≤ V) (hPQ : P ≤ Q) (hW : 0 ≤ W) (hP : 0 ≤ P) (h : -2 ^ (W + P).toNat ≤ n ∧ n ≤ 2 ^ (W + P).toNat - 1) :
    -2 ^ (V + Q).toNat ≤ toFmt n P Q ∧ toFmt n P Q ≤ 2 ^ (V + Q).toNat - 1 := by
  have e : toFmt n P Q = n * 2 ^ (Q - P).toNat := if_pos hPQ
  have s : (2 : Int) ^ (W + Q).toNat = 2 ^ (W + P).toNat * 2 ^ (Q - P).toNat := by
    rw [← pow_split, show (W + P).toNat + (Q - P).toNat = (W + Q).toNat by omega]
  have hl : (2 : Int) ^ (W + Q).toNat ≤ 2 ^ (V + Q).toNat := pow_le_pow (by omega)
  have h1 := one_le_pow (Q - P).toNat
  have a1 : -2 ^ (W + P).toNat * 2 ^ (Q - P).toNat ≤ n * 2 ^ (Q - P).toNat := Int.mul_le_mul_of_nonneg_right h.1 (by omega)
  have a2 : n * 2 ^ (Q - P).toNat ≤ (2 ^ (W + P).toNat - 1) * 2 ^ (Q - P).toNat := Int.mul_le_mul_of_nonneg_right h.2 (by omega)
  rw [Int.neg_mul, ← s] at a1
  rw [Int.sub_mul, ← s, Int.one_mul] at a2
  rw [e]; omega

theorem toFmt_chain (n P R Q : Int) (h : P ≤ R) : toFmt (toFmt n P R) R Q = toFmt n P Q := by
  have e : toFmt n P R = n * 2 ^ (R - P).toNat := if_pos h
  rw [e]
  unfold toFmt
  by_cases h1 : R ≤ Q
  · rw [if_pos h1, if_pos (by omega), Int.mul_assoc, ← pow_split, show (R - P).toNat + (Q - R).toNat = (Q - P).toNat by omega]
  · rw [if_neg h1]
    by_cases h2 : P ≤ Q
    · rw [if_pos h2]
      have s : (2 : Int) ^ (R - P).toNat = 2 ^ (Q - P).toNat * 2 ^ (R - Q).toNat := by
        rw [← pow_split, show (Q - P).toNat + (R - Q).toNat = (R - P).toNat by omega]
      rw [s, ← Int.mul_assoc]; exact rnd_mul _ _ (one_le_pow _)
    · rw [if_neg h2]
      have s : (2 : Int) ^ (R - Q).toNat = 2 ^ (P - Q).toNat * 2 ^ (R - P).toNat := by
        rw [← pow_split, show (P - Q).toNat + (R - P).toNat = (R - Q).toNat by omega]
      rw [s]; exact rnd_scale _ _ _ (one_le_pow _) (one_le_pow _)

theorem shl_shr (x Q : Int) (hQ : 0 ≤ Q ∧ Q ≤ 16) : x * 65536 / 2 ^ Q.toNat = x * 2 ^ (16 - Q).toNat := by
  have s : (65536 : Int) = 2 ^ (16 - Q).toNat * 2 ^ Q.toNat := by
    rw [← pow_split, show (16 - Q).toNat + Q.toNat = 16 by omega]; rfl
  have h1 := one_le_pow Q.toNat
  rw [s, ← Int.mul_assoc, Int.mul_ediv_cancel _ (by omega)]
theorem one_shr (Q : Int) (hQ : 0 ≤ Q ∧ Q ≤ 16) : 65536 / 2 ^ Q.toNat = (2 : Int) ^ (16 - Q).toNat := by
  have := shl_shr 1 Q hQ
  rwa [Int.one_mul, Int.one_mul] at this

theorem toFmt_far (n P Q : Int) (hP : 0 ≤ P ∧ P ≤ 16) (hQ : 0 ≤ Q ∧ Q ≤ 16) :
    -2 ^ (16 - Q).toNat ≤ 2 * (toFmt n P Q * 2 ^ (16 - Q).toNat - n * 2 ^ (16 - P).toNat) ∧ 2 * (toFmt n P Q * 2 ^ (16 - Q).toNat - n * 2 ^ (16 - P).toNat) ≤ 2 ^ (16 - Q).toNat := by
  have h1 := one_le_pow (16 - Q).toNat
  have h2 := one_le_pow (16 - P).toNat
  by_cases h : P ≤ Q
  · have e : toFmt n P Q = n * 2 ^ (Q - P).toNat := if_pos h
    have s : (2 : Int) ^ (16 - P).toNat = 2 ^ (Q - P).toNat * 2 ^ (16 - Q).toNat := by
      rw [← pow_split, show (Q - P).toNat + (16 - Q).toNat = (16 - P).toNat by omega]
    rw [e, s, Int.mul_assoc]; omega
  · have e : toFmt n P Q = rnd n (2 ^ (P - Q).toNat) := if_neg h
    have s : (2 : Int) ^ (16 - Q).toNat = 2 ^ (P - Q).toNat * 2 ^ (16 - P).toNat := by
      rw [← pow_split, show (P - Q).toNat + (16 - P).toNat = (16 - Q).toNat by omega]
    obtain ⟨g1, g2, -⟩ := rnd_spec n (2 ^ (P - Q).toNat) (one_le_pow _)
    rw [e, s]
    generalize (2 : Int) ^ (P - Q).toNat = b at *
    generalize (2 : Int) ^ (16 - P).toNat = c at *
    generalize rnd n b = x at *
    have a1 : -b * c ≤ 2 * (n - x * b) * c := Int.mul_le_mul_of_nonneg_right g1 (by omega)
    have a2 : 2 * (n - x * b) * c ≤ b * c := Int.mul_le_mul_of_nonneg_right g2 (by omega)
    rw [Int.neg_mul] at a1
    rw [Int.mul_assoc, Int.sub_mul, Int.mul_assoc x] at a1 a2
    omega

theorem mulOf_comm (P a b : Int) : mulOf P a b = mulOf P b a := by unfold mulOf; rw [Int.mul_comm]
theorem mulOf_zero (P a : Int) : mulOf P a 0 = 0 := by
  unfold mulOf
  rw [Int.mul_zero, show (0 : Int) = 0 * 2 ^ P.toNat by rw [Int.zero_mul]]
  have := rnd_mul 0 _ (one_le_pow P.toNat)
  simpa using this
theorem mulOf_one (P n : Int) : mulOf P n (2 ^ P.toNat) = n := rnd_mul _ _ (one_le_pow _)
theorem fracOf_one (P n : Int) : fracOf P n (2 ^ P.toNat) = n := rnd_mul _ _ (one_le_pow _)
theorem fracOf_two (P n d : Int) (hd : 1 ≤ d) : fracOf P (2 * n) (2 * d) = fracOf P n d := by
  unfold fracOf
  have := rnd_scale 2 (n * 2 ^ P.toNat) d (by omega) hd
  rw [← this, Int.mul_comm d 2, Int.mul_comm 2 n, Int.mul_right_comm]
theorem divOf_one (P n : Int) : divOf P n (2 ^ P.toNat) = n := by
  have := one_le_pow P.toNat
  unfold divOf
  rw [if_neg (by omega)]
  exact rnd_mul _ _ this
theorem divOf_self (P b : Int) (hb : b ≠ 0) : divOf P b b = 2 ^ P.toNat := by
  unfold divOf
  split
  · rw [Int.mul_comm]; exact rnd_mul _ _ (by omega)
  · rw [Int.mul_comm]; exact rnd_mul _ _ (by omega)
theorem divOf_spec (P a b : Int) :
    (b < 0 → b ≤ 2 * (a * 2 ^ P.toNat - divOf P a b * b) ∧ 2 * (a * 2 ^ P.toNat - divOf P a b * b) ≤ -b) ∧
    (0 < b → -b ≤ 2 * (a * 2 ^ P.toNat - divOf P a b * b) ∧ 2 * (a * 2 ^ P.toNat - divOf P a b * b) ≤ b) := by
  unfold divOf
  constructor
  · intro h
    rw [if_pos h]
    obtain ⟨g1, g2, -⟩ := rnd_spec (-a * 2 ^ P.toNat) (-b) (by omega)
    rw [Int.neg_mul] at *
    rw [Int.mul_neg] at g1 g2
    omega
  · intro h
    rw [if_neg (by omega)]
    obtain ⟨g1, g2, -⟩ := rnd_spec (a * 2 ^ P.toNat) b (by omega)
    exact ⟨g1, g2⟩

theorem one_fits {W P : Int} (hW : 1 ≤ W) (hP : 0 ≤ P) : (2 : Int) ^ P.toNat ≤ 2 ^ (W + P).toNat - 1 := by
  have h1 := one_le_pow P.toNat
  have h2 : (2 : Int) ^ (P.toNat + 1) ≤ 2 ^ (W + P).toNat := pow_le_pow (by omega)
  rw [pow_split] at h2
  omega
theorem cut_bounds (W P n : Int) : -2 ^ (W + P).toNat ≤ cut W P n ∧ cut W P n ≤ 2 ^ (W + P).toNat - 1 := by
  have h1 := one_le_pow (W + P).toNat
  unfold cut
  split
  · omega
  · split <;> omega

/-! ### Square roots, bit by bit -/
def isq : Nat → Int → Int → Int
  | 0, _, r => r
  | k + 1, n, r => isq k n (if (r + 2 ^ k) * (r + 2 ^ k) ≤ n then r + 2 ^ k else r)
def isqrt (n : Int) : Int := isq 31 n 0

theorem isq_spec (n : Int) : ∀ (k : Nat) (r : Int), 0 ≤ r → r * r ≤ n → n < (r + 2 ^ k) * (r + 2 ^ k) →
    0 ≤ isq k n r ∧ isq k n r * isq k n r ≤ n ∧ n < (isq k n r + 1) * (isq k n r + 1)
  | 0, r, h0, h1, h2 => ⟨h0, h1, h2⟩
  | k + 1, r, h0, h1, h2 => by
    have hp := one_le_pow k
    have e : (2 : Int) ^ (k + 1) = 2 ^ k + 2 ^ k := by rw [pow_split]; omega
    by_cases h : (r + 2 ^ k) * (r + 2 ^ k) ≤ n
    · have e1 : isq (k + 1) n r = isq k n (r + 2 ^ k) := by rw [isq, if_pos h]
      rw [e1]
      refine isq_spec n k _ (by omega) h ?_
      rw [e, ← Int.add_assoc] at h2
      exact h2
    · have e1 : isq (k + 1) n r = isq k n r := by rw [isq, if_neg h]
      rw [e1]
      exact isq_spec n k _ h0 h1 (by omega)

theorem isqrt_spec (n : Int) (h0 : 0 ≤ n) (h1 : n ≤ 1152921504606846976) : 0 ≤ isqrt n ∧ isqrt n * isqrt n ≤ n ∧ n < (isqrt n + 1) * (isqrt n + 1) :=
  isq_spec n 31 0 (by omega) (by omega) (by have : ((0 : Int) + 2 ^ 31) * (0 + 2 ^ 31) = 4611686018427387904 := by decide
                                            omega)

theorem sq_le {s t : Int} (h0 : 0 ≤ s) (h : s ≤ t) : s * s ≤ t * t := Int.mul_le_mul h h h0 (by omega)
theorem sq_lt {s t : Int} (h : s * s < t * t) (ht : 0 ≤ t) : s < t := by
  apply Int.lt_of_not_ge; intro hc
  have := sq_le ht hc
  omega
theorem root_unique {s t n : Int} (hs : 0 ≤ s) (ht : 0 ≤ t) (a : s * s ≤ n) (b : n < (s + 1) * (s + 1)) (c : t * t ≤ n) (d : n < (t + 1) * (t + 1)) : s = t := by
  have h1 : s < t + 1 := sq_lt (by omega) (by omega)
  have h2 : t < s + 1 := sq_lt (by omega) (by omega)
  omega
theorem isqrt_le (n : Int) (h0 : 0 ≤ n) (h1 : n ≤ 1152921504606846976) : isqrt n ≤ 1073741824 := by
  obtain ⟨a, b, -⟩ := isqrt_spec n h0 h1
  have : isqrt n < 1073741825 := sq_lt (by omega) (by omega)
  omega
def sqrtFloor (n : Int) : Int := if 0 ≤ n ∧ n ≤ 1152921504606846976 then isqrt n else -1
theorem sqrtFloor_in (n : Int) (h0 : 0 ≤ n) (h1 : n ≤ 1152921504606846976) : sqrtFloor n = isqrt n := if_pos ⟨h0, h1⟩

/-- Newton's step from above stays above. -/
theorem newton_step (n r : Int) (hn : 1 ≤ n) (hr : 1 ≤ r) : 0 ≤ (r + n / r) / 2 ∧ n < ((r + n / r) / 2 + 1) * ((r + n / r) / 2 + 1) ∧ 1 ≤ (r + n / r) / 2 := by
  have e := Int.emod_add_mul_ediv n r
  have l1 := Int.emod_lt_of_pos n (show 0 < r by omega)
  have q0 : 0 ≤ n / r := Int.ediv_nonneg (by omega) (by omega)
  generalize n / r = q at *
  have hx : r + q + 1 ≤ 2 * ((r + q) / 2 + 1) := by omega
  have h0 : 0 ≤ (r + q) / 2 := by omega
  generalize (r + q) / 2 = x at *
  have hsq : (r + q + 1) * (r + q + 1) ≤ (2 * (x + 1)) * (2 * (x + 1)) := sq_le (by omega) hx
  have h4 : (2 * (x + 1)) * (2 * (x + 1)) = 4 * ((x + 1) * (x + 1)) := by
    rw [Int.mul_assoc, Int.mul_left_comm (x + 1) 2, ← Int.mul_assoc 2 2]; rfl
  have hd : 0 ≤ (r - (q + 1)) * (r - (q + 1)) := by
    rcases Int.le_total 0 (r - (q + 1)) with h | h
    · exact Int.mul_nonneg h h
    · have : (r - (q + 1)) * (r - (q + 1)) = (-(r - (q + 1))) * (-(r - (q + 1))) := by rw [Int.neg_mul_neg]
      rw [this]; exact Int.mul_nonneg (by omega) (by omega)
  have x1 : (r + q + 1) * (r + q + 1) = r * r + 2 * (r * (q + 1)) + (q + 1) * (q + 1) := by
    rw [Int.add_assoc r q 1, Int.mul_add, Int.add_mul r, Int.add_mul r, Int.mul_comm (q + 1) r]; omega
  have x2 : (r - (q + 1)) * (r - (q + 1)) = r * r - 2 * (r * (q + 1)) + (q + 1) * (q + 1) := by
    rw [Int.mul_sub, Int.sub_mul r, Int.sub_mul r, Int.mul_comm (q + 1) r]; omega
  have x3 : r * (q + 1) = r * q + r := by rw [Int.mul_add, Int.mul_one]
  have hn2 : n < (x + 1) * (x + 1) := by omega
  refine ⟨h0, hn2, ?_⟩
  apply Int.le_of_not_gt; intro hc
  obtain rfl : x = 0 := by omega
  omega
theorem newton_end (n r : Int) (hr : 1 ≤ r) (h : r ≤ (r + n / r) / 2) : r * r ≤ n := by
  have e := Int.emod_add_mul_ediv n r
  have l0 := Int.emod_nonneg n (show r ≠ 0 by omega)
  have hq : r ≤ n / r := by omega
  have := Int.mul_le_mul_of_nonneg_left hq (show 0 ≤ r by omega)
  omega

end Fx
