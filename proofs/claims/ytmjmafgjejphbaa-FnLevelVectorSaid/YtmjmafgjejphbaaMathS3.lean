/-
  Plain laws on spans, third part: quotients, roots, squares, powers. No program in sight.
-/
import Derived.Test.YtmjmafgjejphbaaMathP
namespace Fx

theorem div_law {a b c d X Y : Int} (h : spanDiv a b c d = (X, Y, true)) :
    svalid a b ∧ svalid c d ∧ svalid X Y ∧ 0 ≤ X ∧ 0 ≤ a ∧ 1 ≤ c ∧ X * d ≤ a * 268435456 ∧ b * 268435456 ≤ Y * c := by
  rcases tri_cases ((svalid a b ∧ svalid c d) ∧ 0 ≤ a ∧ 0 < c) (a * 268435456 / d) (-(-(b * 268435456) / c)) with e | ⟨⟨⟨v1, v2⟩, h0, hc⟩, v3, e⟩
  · have e : spanDiv a b c d = _ := e
    rw [e] at h; cases h
  · have e : spanDiv a b c d = _ := e
    rw [e] at h
    simp only [Prod.mk.injEq, and_true] at h
    obtain ⟨rfl, rfl⟩ := h
    have hd : 1 ≤ d := by unfold svalid at v2; omega
    refine ⟨v1, v2, v3, ?_, h0, by omega, (floor_spec _ d hd).1, (ceil_spec _ c (by omega)).1⟩
    exact Int.ediv_nonneg (by omega) (by omega)
theorem quot_law {a b c d X Y p q : Int} (h : spanDiv a b c d = (X, Y, true)) (k : spanMul X Y c d = (p, q, true)) : p ≤ a ∧ b ≤ q := by
  obtain ⟨v1, v2, v3, x0, a0, c0, h1, h2⟩ := div_law h
  rcases tri_cases (svalid X Y ∧ svalid c d) (mulLo X Y c d) (mulHi X Y c d) with e | ⟨-, -, e⟩
  · have e : spanMul X Y c d = _ := e
    rw [e] at k; cases k
  · have e : spanMul X Y c d = _ := e
    rw [e] at k
    simp only [Prod.mk.injEq, and_true] at k
    obtain ⟨rfl, rfl⟩ := k
    have l1 := min4_le (X * c) (X * d) (Y * c) (Y * d)
    have l2 := le_max4 (X * c) (X * d) (Y * c) (Y * d)
    have m1 := mul_lo_le X Y c d (a * 268435456) (by omega)
    have m2 := mul_hi_ge X Y c d (b * 268435456) (by omega)
    omega

theorem ceilSqrt_spec (n : Int) (h0 : 0 ≤ n) (h1 : n ≤ 1152921504606846976) : 0 ≤ ceilSqrt n ∧ isqrt n ≤ ceilSqrt n ∧ n ≤ ceilSqrt n * ceilSqrt n ∧ (ceilSqrt n = 0 ∨ (ceilSqrt n - 1) * (ceilSqrt n - 1) < n) := by
  obtain ⟨s0, s1, s2⟩ := isqrt_spec n h0 h1
  unfold ceilSqrt
  generalize isqrt n = r at *
  split
  · rename_i hc
    refine ⟨by omega, by omega, by omega, .inr ?_⟩
    rw [show r + 1 - 1 = r by omega]; exact hc
  · rename_i hc
    refine ⟨s0, Int.le_refl _, by omega, ?_⟩
    by_cases hr : r = 0
    · exact .inl hr
    · right
      have : (r - 1) * (r - 1) = r * r - 2 * r + 1 := by
        rw [Int.sub_mul, Int.mul_sub]; omega
      omega
theorem isqrt_mono {m n : Int} (h0 : 0 ≤ m) (h1 : m ≤ n) (h2 : n ≤ 1152921504606846976) : isqrt m ≤ isqrt n := by
  obtain ⟨a0, a1, a2⟩ := isqrt_spec m h0 (by omega)
  obtain ⟨b0, b1, b2⟩ := isqrt_spec n (by omega) h2
  have : isqrt m < isqrt n + 1 := sq_lt (by omega) (by omega)
  omega
theorem sqrt_law {a b X Y : Int} (h : spanSqrt a b = (X, Y, true)) :
    svalid a b ∧ 0 ≤ a ∧ svalid X Y ∧ 0 ≤ X ∧ X * X ≤ a * 268435456 ∧ a * 268435456 < (X + 1) * (X + 1) ∧ b * 268435456 ≤ Y * Y ∧ (Y = 0 ∨ (Y - 1) * (Y - 1) < b * 268435456) := by
  unfold spanSqrt at h
  split at h
  · rename_i hv
    obtain ⟨v, a0⟩ := hv
    simp only [Prod.mk.injEq, and_true] at h
    obtain ⟨rfl, rfl⟩ := h
    have v' := v
    unfold svalid at v'
    obtain ⟨s0, s1, s2⟩ := isqrt_spec (a * 268435456) (by omega) (by omega)
    obtain ⟨t0, t1, t2, t3⟩ := ceilSqrt_spec (b * 268435456) (by omega) (by omega)
    have hm := isqrt_mono (m := a * 268435456) (n := b * 268435456) (by omega) (by omega) (by omega)
    have hb : ceilSqrt (b * 268435456) ≤ 1073741824 := by
      rcases t3 with t3 | t3
      · omega
      · have : ceilSqrt (b * 268435456) - 1 < 1073741824 := sq_lt (by omega) (by omega)
        omega
    refine ⟨v, a0, ?_, s0, s1, s2, t2, t3⟩
    unfold svalid; omega
  · cases h
theorem sqrt_no {a b X Y : Int} (h : spanSqrt a b = (X, Y, false)) : X = 0 ∧ Y = 0 ∧ (¬ svalid a b ∨ a < 0) := by
  unfold spanSqrt at h
  split at h
  · cases h
  · rename_i hv
    simp only [Prod.mk.injEq, and_true] at h
    refine ⟨h.1.symm, h.2.symm, ?_⟩
    by_cases v : svalid a b
    · exact .inr (by have : ¬ 0 ≤ a := fun k => hv ⟨v, k⟩
                     omega)
    · exact .inl v
theorem root_le {r n m : Int} (h0 : 0 ≤ m) (h : r * r ≤ n) (k : n ≤ m * m) : r ≤ m := by
  have : r < m + 1 := by
    apply Int.lt_of_not_ge; intro hc
    have : (m + 1) * (m + 1) ≤ r * r := Int.mul_le_mul hc hc (by omega) (by omega)
    have e : (m + 1) * (m + 1) = m * m + 2 * m + 1 := by rw [Int.add_mul, Int.mul_add]; omega
    omega
  omega
theorem square_law {a b p q : Int} (v : svalid a b) (h0 : 0 ≤ a) (k : spanMul a b a b = (p, q, true)) : ∃ X Y : Int, spanSqrt p q = (X, Y, true) ∧ svalid X Y ∧ X ≤ a ∧ b ≤ Y := by
  rcases tri_cases (svalid a b ∧ svalid a b) (mulLo a b a b) (mulHi a b a b) with e | ⟨-, v3, e⟩
  · have e : spanMul a b a b = _ := e
    rw [e] at k; cases k
  · have e : spanMul a b a b = _ := e
    rw [e] at k
    simp only [Prod.mk.injEq, and_true] at k
    obtain ⟨rfl, rfl⟩ := k
    have hb : 0 ≤ b := by unfold svalid at v; omega
    have l1 := min4_le (a * a) (a * b) (b * a) (b * b)
    have l2 := le_max4 (a * a) (a * b) (b * a) (b * b)
    have m1 := mul_lo_le a b a b (a * a) (by omega)
    have m2 := mul_hi_ge a b a b (b * b) (by omega)
    have p1 : 0 ≤ a * a := Int.mul_nonneg h0 h0
    have p2 : 0 ≤ a * b := Int.mul_nonneg h0 hb
    have p3 : 0 ≤ b * a := Int.mul_nonneg hb h0
    have p4 : 0 ≤ b * b := Int.mul_nonneg hb hb
    have p0 : 0 ≤ mulLo a b a b := by
      unfold mulLo
      exact Int.ediv_nonneg (le_min4 ⟨p1, p2, p3, p4⟩) (by omega)
    have hs : spanSqrt (mulLo a b a b) (mulHi a b a b) = (isqrt (mulLo a b a b * 268435456), ceilSqrt (mulHi a b a b * 268435456), true) := if_pos ⟨v3, p0⟩
    obtain ⟨-, -, w, x0, x1, -, y1, -⟩ := sqrt_law hs
    refine ⟨_, _, hs, w, root_le h0 x1 m1, root_le ?_ (Int.le_refl (b * b)) (Int.le_trans m2 y1)⟩
    unfold svalid at w; omega

/-! ### Powers -/
theorem spanPow_step (a b : Int) (n : Nat) (h : (spanPow a b n).2.2 = true) : spanPow a b (n + 1) = spanMul (spanPow a b n).1 (spanPow a b n).2.1 a b := by
  rw [spanPow, if_pos h]
theorem spanPow_no (a b : Int) (n : Nat) (h : (spanPow a b n).2.2 = false) : spanPow a b n = (0, 0, false) := by
  cases n with
  | zero => cases h
  | succ n =>
    rw [spanPow] at *
    split at h
    · rename_i hk
      rw [if_pos hk]
      rcases tri_cases (svalid (spanPow a b n).1 (spanPow a b n).2.1 ∧ svalid a b) (mulLo (spanPow a b n).1 (spanPow a b n).2.1 a b) (mulHi (spanPow a b n).1 (spanPow a b n).2.1 a b) with e | ⟨-, -, e⟩
      · exact e
      · have e : spanMul (spanPow a b n).1 (spanPow a b n).2.1 a b = _ := e
        rw [e] at h; cases h
    · rename_i hk
      rw [if_neg hk]
theorem spanPow_valid (a b : Int) (n : Nat) : svalid (spanPow a b n).1 (spanPow a b n).2.1 := by
  have h0 : svalid 0 0 := by unfold svalid; omega
  have hm : ∀ c d e f, svalid (spanMul c d e f).1 (spanMul c d e f).2.1 := by
    intro c d e f
    unfold spanMul
    split
    · exact good_valid _ _
    · exact h0
  cases n with
  | zero => show svalid 268435456 268435456; unfold svalid; omega
  | succ n =>
    rw [spanPow]
    split
    · exact hm _ _ _ _
    · exact h0
/-- if a power cannot be, no greater one can -/
theorem spanPow_fail (a b : Int) (n : Nat) (h : (spanPow a b n).2.2 = false) : ∀ k : Nat, spanPow a b (n + k) = (0, 0, false)
  | 0 => spanPow_no a b n h
  | k + 1 => by
    have ih := spanPow_fail a b n h k
    rw [show n + (k + 1) = n + k + 1 from rfl, spanPow, if_neg (by rw [ih]; decide)]

end Fx
