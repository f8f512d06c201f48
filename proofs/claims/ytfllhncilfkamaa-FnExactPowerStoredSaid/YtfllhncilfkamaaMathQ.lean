/-
  Plain laws on stored powers of 2. No program in sight.
-/
import Derived.Test.YtfllhncilfkamaaMathP2
namespace Fx

/-- Low of the power of what is behind the point -/
def powLow (P n : Int) : Int := (twoPower (n % 2 ^ P.toNat * 2 ^ (16 - P).toNat)).1
/-- the stored number for 2^(n / 2^P), and whether it can be stored -/
def powNum (W P n : Int) : Int :=
  if 28 - P - n / 2 ^ P.toNat ≤ 0 then 2 ^ (W + P).toNat - 1 else if 60 < 28 - P - n / 2 ^ P.toNat then 0 else cut W P (rnd (powLow P n) (2 ^ (28 - P - n / 2 ^ P.toNat).toNat))
def powFit (W P n : Int) : Bool :=
  if 28 - P - n / 2 ^ P.toNat ≤ 0 then false else if 60 < 28 - P - n / 2 ^ P.toNat then true else cut W P (rnd (powLow P n) (2 ^ (28 - P - n / 2 ^ P.toNat).toNat)) == rnd (powLow P n) (2 ^ (28 - P - n / 2 ^ P.toNat).toNat)

abbrev Fmt (W P : Int) : Prop := (1 ≤ W ∧ W ≤ 12) ∧ 0 ≤ P ∧ P ≤ 16
abbrev Fits (W P n : Int) : Prop := Fmt W P ∧ -2 ^ (W + P).toNat ≤ n ∧ n ≤ 2 ^ (W + P).toNat - 1

theorem pow_prod {W P : Int} (hW : 0 ≤ W) (hP : 0 ≤ P) : (2 : Int) ^ (W + P).toNat = 2 ^ W.toNat * 2 ^ P.toNat := by
  rw [← pow_split, show W.toNat + P.toNat = (W + P).toNat by omega]
/-- what is before the point and behind it -/
theorem pow_parts {W P n : Int} (h : Fits W P n) : (-2 ^ W.toNat ≤ n / 2 ^ P.toNat ∧ n / 2 ^ P.toNat ≤ 2 ^ W.toNat - 1) ∧ (-4096 ≤ n / 2 ^ P.toNat ∧ n / 2 ^ P.toNat ≤ 4095) ∧ 0 ≤ n % 2 ^ P.toNat ∧ n % 2 ^ P.toNat ≤ 2 ^ P.toNat - 1 ∧
    0 ≤ n % 2 ^ P.toNat * 2 ^ (16 - P).toNat ∧ n % 2 ^ P.toNat * 2 ^ (16 - P).toNat ≤ 65536 - 2 ^ (16 - P).toNat ∧ 1 ≤ (2 : Int) ^ (16 - P).toNat := by
  obtain ⟨⟨hW, hP⟩, h1, h2⟩ := h
  have hp := one_le_pow P.toNat
  have hq := one_le_pow (16 - P).toNat
  have e := pow_prod (W := W) (P := P) (by omega) hP.1
  have hw : (2 : Int) ^ W.toNat ≤ 4096 := pow_le_pow (k := W.toNat) (n := 12) (by omega)
  have e16 : (2 : Int) ^ P.toNat * 2 ^ (16 - P).toNat = 65536 := by rw [← pow_split, show P.toNat + (16 - P).toNat = 16 by omega]; rfl
  rw [e] at h1 h2
  have a1 : -2 ^ W.toNat ≤ n / 2 ^ P.toNat := (le_floor_iff _ _ _ hp).2 (by rw [Int.neg_mul]; exact h1)
  have a2 : n / 2 ^ P.toNat < 2 ^ W.toNat := Int.ediv_lt_of_lt_mul (by omega) (by omega)
  have b1 := Int.emod_nonneg n (show (2 : Int) ^ P.toNat ≠ 0 by omega)
  have b2 := Int.emod_lt_of_pos n (show (0 : Int) < 2 ^ P.toNat by omega)
  have c1 : 0 ≤ n % 2 ^ P.toNat * 2 ^ (16 - P).toNat := Int.mul_nonneg b1 (by omega)
  have c2 : n % 2 ^ P.toNat * 2 ^ (16 - P).toNat ≤ (2 ^ P.toNat - 1) * 2 ^ (16 - P).toNat := Int.mul_le_mul_of_nonneg_right (by omega) (by omega)
  rw [Int.sub_mul, e16, Int.one_mul] at c2
  exact ⟨⟨a1, by omega⟩, ⟨by omega, by omega⟩, b1, by omega, c1, c2, hq⟩
theorem powLow_in {W P n : Int} (h : Fits W P n) : 268435456 ≤ powLow P n ∧ powLow P n ≤ 536870912 := by
  obtain ⟨-, -, -, -, c1, c2, c3⟩ := pow_parts h
  obtain ⟨g1, g2, g3, -⟩ := twoPower_in _ c1 (by omega)
  unfold powLow; omega
theorem rest_is (n P : Int) : n - n / 2 ^ P.toNat * 2 ^ P.toNat = n % 2 ^ P.toNat := by
  have := Int.emod_add_mul_ediv n (2 ^ P.toNat)
  rw [Int.mul_comm] at this
  omega

/-- a rounded quotient by a power of two of a number at least 2^28 -/
theorem rnd_big {x : Int} {s k : Nat} (hs : s + k = 28) (hx : 268435456 ≤ x) : (2 : Int) ^ k ≤ rnd x (2 ^ s) := by
  have h := rnd_mono (2 ^ k * 2 ^ s) x (2 ^ s) (one_le_pow s) (by rw [← pow_split, show k + s = 28 by omega]; exact hx)
  rwa [rnd_mul _ _ (one_le_pow s)] at h
theorem rnd_pos {x b : Int} (hb : 1 ≤ b) (hx : 0 ≤ x) : 0 ≤ rnd x b := by
  have h := rnd_mono (0 * b) x b hb (by omega)
  rwa [rnd_mul _ _ hb] at h

/-- more than the format holds: the greatest number -/
theorem pow_over {W P n : Int} (h : Fits W P n) (hw : W + 1 ≤ n / 2 ^ P.toNat) : powNum W P n = 2 ^ (W + P).toNat - 1 ∧ powFit W P n = false := by
  unfold powNum powFit
  by_cases h1 : 28 - P - n / 2 ^ P.toNat ≤ 0
  · rw [if_pos h1, if_pos h1]; exact ⟨rfl, rfl⟩
  · rw [if_neg h1, if_neg h1, if_neg (by omega), if_neg (by omega)]
    have hl := powLow_in h
    have hb := rnd_big (x := powLow P n) (s := (28 - P - n / 2 ^ P.toNat).toNat) (k := (P + n / 2 ^ P.toNat).toNat) (by omega) hl.1
    have hk : (2 : Int) ^ (W + P).toNat ≤ 2 ^ (P + n / 2 ^ P.toNat).toNat := pow_le_pow (by omega)
    have hc := cut_high (W := W) (P := P) (n := rnd (powLow P n) (2 ^ (28 - P - n / 2 ^ P.toNat).toNat)) (by omega) (one_le_pow _)
    rw [hc]
    refine ⟨rfl, beq_eq_false_iff_ne.2 (by omega)⟩
/-- the one case in which the reference shifts to the left -/
theorem pow_edge {W P n : Int} (h : Fits W P n) (hw : n / 2 ^ P.toNat ≤ W) (hs : 28 - P - n / 2 ^ P.toNat ≤ 0) :
    n / 2 ^ P.toNat + P - 28 = 0 ∧ cut W P (powLow P n) = powNum W P n ∧ (cut W P (powLow P n) == powLow P n) = powFit W P n := by
  have hl := powLow_in h
  obtain rfl : P = 16 := by omega
  obtain rfl : W = 12 := by omega
  refine ⟨by omega, ?_⟩
  have hc : cut 12 16 (powLow 16 n) = 2 ^ ((12 : Int) + 16).toNat - 1 := cut_high (by show (2 : Int) ^ 28 - 1 < _; omega) (one_le_pow _)
  unfold powNum powFit
  rw [if_pos hs, if_pos hs, hc]
  refine ⟨rfl, beq_eq_false_iff_ne.2 ?_⟩
  show (2 : Int) ^ 28 - 1 ≠ _
  omega

/-- a whole number: a power of two, exactly -/
theorem pow_whole {W P n : Int} (h : Fits W P n) (h0 : n % 2 ^ P.toNat = 0) (h1 : 0 ≤ n / 2 ^ P.toNat) (h2 : n / 2 ^ P.toNat < W) : powNum W P n = 2 ^ (n / 2 ^ P.toNat + P).toNat ∧ powFit W P n = true := by
  have hf := h.1
  have hl : powLow P n = 2 ^ (n / 2 ^ P.toNat + P).toNat * 2 ^ (28 - P - n / 2 ^ P.toNat).toNat := by
    rw [← pow_split, show (n / 2 ^ P.toNat + P).toNat + (28 - P - n / 2 ^ P.toNat).toNat = 28 by omega]
    unfold powLow
    rw [h0, Int.zero_mul, twoPower_zero]
    rfl
  have hr : rnd (powLow P n) (2 ^ (28 - P - n / 2 ^ P.toNat).toNat) = 2 ^ (n / 2 ^ P.toNat + P).toNat := by rw [hl]; exact rnd_mul _ _ (one_le_pow _)
  have hk : (2 : Int) * 2 ^ (n / 2 ^ P.toNat + P).toNat ≤ 2 ^ (W + P).toNat := by
    have := pow_le_pow (k := (n / 2 ^ P.toNat + P).toNat + 1) (n := (W + P).toNat) (by omega)
    rw [pow_split] at this
    omega
  have h3 := one_le_pow (n / 2 ^ P.toNat + P).toNat
  unfold powNum powFit
  rw [if_neg (by omega), if_neg (by omega), if_neg (by omega), if_neg (by omega), hr, cut_in (by omega)]
  exact ⟨rfl, by simp⟩

theorem cut_mono {W P a b : Int} (h : a ≤ b) : cut W P a ≤ cut W P b := by
  have := one_le_pow (W + P).toNat
  unfold cut
  split <;> split <;> (try split) <;> (try split) <;> omega
theorem cut_range (W P a : Int) : -2 ^ (W + P).toNat ≤ cut W P a ∧ cut W P a ≤ 2 ^ (W + P).toNat - 1 := by
  have := one_le_pow (W + P).toNat
  unfold cut
  split <;> (try split) <;> omega
theorem powNum_high {W P n : Int} (h : 28 - P - n / 2 ^ P.toNat ≤ 0) : powNum W P n = 2 ^ (W + P).toNat - 1 := if_pos h
theorem powNum_low {W P n : Int} (h : 60 < 28 - P - n / 2 ^ P.toNat) : powNum W P n = 0 := by unfold powNum; rw [if_neg (by omega), if_pos h]
theorem powNum_mid {W P n : Int} (h : 0 < 28 - P - n / 2 ^ P.toNat ∧ 28 - P - n / 2 ^ P.toNat ≤ 60) : powNum W P n = cut W P (rnd (powLow P n) (2 ^ (28 - P - n / 2 ^ P.toNat).toNat)) := by unfold powNum; rw [if_neg (by omega), if_neg (by omega)]
theorem cut_pos {W P a : Int} (h : 0 ≤ a) : 0 ≤ cut W P a := by
  have := one_le_pow (W + P).toNat
  unfold cut
  split <;> (try split) <;> omega

theorem powNum_in {W P n : Int} (h : Fits W P n) : 0 ≤ powNum W P n ∧ powNum W P n ≤ 2 ^ (W + P).toNat - 1 := by
  have h1 := one_le_pow (W + P).toNat
  have hl := powLow_in h
  have hr := rnd_pos (x := powLow P n) (b := 2 ^ (28 - P - n / 2 ^ P.toNat).toNat) (one_le_pow _) (by omega)
  have c1 := cut_pos (W := W) (P := P) hr
  have c2 := (cut_range W P (rnd (powLow P n) (2 ^ (28 - P - n / 2 ^ P.toNat).toNat))).2
  unfold powNum
  split
  · omega
  · split <;> omega

/-- a greater number has no less power -/
theorem powNum_mono {W P n : Int} (h : Fits W P n) (h' : Fits W P (n + 1)) : powNum W P n ≤ powNum W P (n + 1) := by
  obtain ⟨-, w2, b1, b2, c1, c2, c3⟩ := pow_parts h
  obtain ⟨-, w2', b1', b2', c1', c2', c3'⟩ := pow_parts h'
  have hp := one_le_pow P.toNat
  have e := Int.emod_add_mul_ediv n (2 ^ P.toNat)
  have e' := Int.emod_add_mul_ediv (n + 1) (2 ^ P.toNat)
  have hin := powNum_in h
  have hin' := powNum_in h'
  have hl := powLow_in h
  have hl' := powLow_in h'
  by_cases hc : n % 2 ^ P.toNat = 2 ^ P.toNat - 1
  · -- the next one is whole
    have hq : (n + 1) / 2 ^ P.toNat = n / 2 ^ P.toNat + 1 := by
      rw [Int.ediv_eq_iff_of_pos (by omega)]
      rw [Int.add_mul, Int.one_mul, Int.mul_comm (n / 2 ^ P.toNat)]
      omega
    have hm : (n + 1) % 2 ^ P.toNat = 0 := by
      rw [hq, Int.mul_add] at e'; omega
    have hlow : powLow P (n + 1) = 268435456 := by unfold powLow; rw [hm, Int.zero_mul, twoPower_zero]
    by_cases s1 : 28 - P - n / 2 ^ P.toNat ≤ 0
    · rw [powNum_high s1, powNum_high (n := n + 1) (by omega)]; exact Int.le_refl _
    · by_cases s2 : 28 - P - (n / 2 ^ P.toNat + 1) ≤ 0
      · rw [powNum_high (n := n + 1) (by omega)]; exact hin.2
      · by_cases s3 : 60 < 28 - P - n / 2 ^ P.toNat
        · rw [powNum_low s3]; exact hin'.1
        · rw [powNum_mid (by omega), powNum_mid (n := n + 1) (by omega), hlow, hq]
          apply cut_mono
          have hs : (28 - P - n / 2 ^ P.toNat).toNat = (28 - P - (n / 2 ^ P.toNat + 1)).toNat + 1 := by omega
          have hr := rnd_scale 2 268435456 (2 ^ (28 - P - (n / 2 ^ P.toNat + 1)).toNat) (by omega) (one_le_pow _)
          rw [← hr, hs, pow_split]
          exact rnd_mono _ _ _ (by have := one_le_pow (28 - P - (n / 2 ^ P.toNat + 1)).toNat; omega) (by omega)
  · have hq : (n + 1) / 2 ^ P.toNat = n / 2 ^ P.toNat := by
      rw [Int.ediv_eq_iff_of_pos (by omega), Int.mul_comm]
      omega
    have hm : (n + 1) % 2 ^ P.toNat = n % 2 ^ P.toNat + 1 := by
      rw [hq] at e'; omega
    have hlow : powLow P n ≤ powLow P (n + 1) := by
      have hc2 : n % 2 ^ P.toNat * 2 ^ (16 - P).toNat + 2 ^ (16 - P).toNat ≤ 65536 - 2 ^ (16 - P).toNat := by rw [hm, Int.add_mul, Int.one_mul] at c2'; exact c2'
      unfold powLow
      rw [hm, Int.add_mul, Int.one_mul]
      have h1 := twoPower_next (n % 2 ^ P.toNat * 2 ^ (16 - P).toNat) (n % 2 ^ P.toNat * 2 ^ (16 - P).toNat + 2 ^ (16 - P).toNat) c1 (by omega) (by omega)
      have h2 := (twoPower_in (n % 2 ^ P.toNat * 2 ^ (16 - P).toNat) c1 (by omega)).2.1
      omega
    by_cases s1 : 28 - P - n / 2 ^ P.toNat ≤ 0
    · rw [powNum_high s1, powNum_high (n := n + 1) (by omega)]; exact Int.le_refl _
    · by_cases s3 : 60 < 28 - P - n / 2 ^ P.toNat
      · rw [powNum_low s3]; exact hin'.1
      · rw [powNum_mid (by omega), powNum_mid (n := n + 1) (by omega), hq]
        exact cut_mono (rnd_mono _ _ _ (one_le_pow _) hlow)

end Fx
