/-
  Plain laws on powers of 2, second part: the spans that the program's products make. No program in sight.
-/
import Derived.Test.YtfllhncilfkamaaMathP
namespace Fx

/-- the product of two spans of numbers that are not negative -/
theorem spanMul_nat (l h c d : Nat) (h1 : l ≤ h) (h2 : h ≤ 1073741824) (h3 : c ≤ d) (h4 : d ≤ 1073741824) (hq : h * d ≤ 288230376151711744) :
    spanMul l h c d = (((l * c / 268435456 : Nat) : Int), (((h * d + 268435455) / 268435456 : Nat) : Int), true) := by
  have m1 : l * c ≤ l * d := Nat.mul_le_mul_left l h3
  have m2 : l * c ≤ h * c := Nat.mul_le_mul_right c h1
  have m3 : l * d ≤ h * d := Nat.mul_le_mul_right d h1
  have m4 : h * c ≤ h * d := Nat.mul_le_mul_left h h3
  have e1 : mulLo l h c d = ((l * c / 268435456 : Nat) : Int) := by
    have : min4 ((l : Int) * c) ((l : Int) * d) ((h : Int) * c) ((h : Int) * d) = ((l * c : Nat) : Int) := by
      rw [← Int.natCast_mul, ← Int.natCast_mul, ← Int.natCast_mul, ← Int.natCast_mul]; unfold min4; omega
    unfold mulLo; rw [this]; omega
  have e2 : mulHi l h c d = (((h * d + 268435455) / 268435456 : Nat) : Int) := by
    have : max4 ((l : Int) * c) ((l : Int) * d) ((h : Int) * c) ((h : Int) * d) = ((h * d : Nat) : Int) := by
      rw [← Int.natCast_mul, ← Int.natCast_mul, ← Int.natCast_mul, ← Int.natCast_mul]; unfold max4; omega
    unfold mulHi; rw [this]; omega
  have v1 : svalid l h := by unfold svalid; omega
  have v2 : svalid c d := by unfold svalid; omega
  unfold spanMul
  rw [if_pos ⟨v1, v2⟩, e1, e2, good_yes]
  unfold svalid
  omega

/-- the greatest High, and the greatest width, after k factors -/
def powV : Nat → Nat
  | 0 => 268435456
  | k + 1 => powV k * rootH (k + 1) / 268435456 + 1
def powW : Nat → Nat
  | 0 => 0
  | k + 1 => (powV k * 2 + powW k * rootH (k + 1)) / 268435456 + 2
theorem pow_tab (k : Nat) (hk : k < 16) : powV k ≤ powV (k + 1) ∧ powV (k + 1) ≤ 536900000 ∧ powV k * rootH (k + 1) ≤ 288230376151711744 ∧ powW k ≤ powW (k + 1) := by
  have h : (List.range 16).all (fun k => decide (powV k ≤ powV (k + 1)) && (decide (powV (k + 1) ≤ 536900000) && (decide (powV k * rootH (k + 1) ≤ 288230376151711744) && decide (powW k ≤ powW (k + 1))))) = true := by decide +kernel
  rw [List.all_eq_true] at h
  simpa using h k (List.mem_range.2 hk)
theorem pow_end : powW 16 ≤ 200 := by decide +kernel

/-- the binary digits of x, from the top -/
theorem digits_step (x k : Nat) (hk : k < 16) : x / 2 ^ (16 - (k + 1)) * 2 ^ (16 - (k + 1)) = x / 2 ^ (16 - k) * 2 ^ (16 - k) + (x / 2 ^ (16 - (k + 1)) % 2) * 2 ^ (16 - (k + 1)) := by
  have e : 2 ^ (16 - k) = 2 ^ (16 - (k + 1)) * 2 := by rw [← Nat.pow_succ, show (16 - (k + 1)).succ = 16 - k by omega]
  rw [e, ← Nat.div_div_eq_div_mul]
  generalize x / 2 ^ (16 - (k + 1)) = y
  generalize 2 ^ (16 - (k + 1)) = p
  have h : y = 2 * (y / 2) + y % 2 := (Nat.div_add_mod y 2).symm
  rw [Nat.mul_comm p 2, ← Nat.mul_assoc, ← Nat.add_mul, Nat.mul_comm (y / 2) 2, ← h]

theorem twoPow_near (N x : Nat) (hN : N = 2 ^ 16) (hx : x ≤ 65535) : ∀ k : Nat, k ≤ 16 → ∃ l h : Nat, twoPow x k = ((l : Int), (h : Int)) ∧ Near N (x / 2 ^ (16 - k) * 2 ^ (16 - k)) l h ∧ 268435456 ≤ l ∧ l ≤ h ∧ h ≤ powV k ∧ h ≤ l + powW k ∧ (x / 2 ^ (16 - k) = 0 → l = 268435456 ∧ h = 268435456)
  | 0, _ => by
    refine ⟨268435456, 268435456, rfl, ?_, by omega, by omega, by simp [powV], by simp [powW], fun _ => ⟨rfl, rfl⟩⟩
    rw [show x / 2 ^ (16 - 0) = 0 from Nat.div_eq_of_lt (by omega), Nat.zero_mul]
    exact near_one
  | k + 1, hk => by
    obtain ⟨l, h, e, hn, h1, h2, h3, h4, h5⟩ := twoPow_near N x hN hx k (by omega)
    obtain ⟨t1, t2, t3, t4⟩ := pow_tab k (by omega)
    obtain ⟨r1, r2, r3, r4⟩ := root_in (k + 1) hk
    have hd := digits_step x k (by omega)
    have hb : x / 2 ^ (16 - k) = x / 2 ^ (16 - (k + 1)) / 2 := by
      rw [Nat.div_div_eq_div_mul, ← Nat.pow_succ, show (16 - (k + 1)).succ = 16 - k by omega]
    have hi : (x : Int) / 2 ^ (16 - (k + 1)) % 2 = ((x / 2 ^ (16 - (k + 1)) % 2 : Nat) : Int) := by
      simp
    by_cases hbit : x / 2 ^ (16 - (k + 1)) % 2 = 1
    · have e1 : twoPow x (k + 1) = ((spanMul (twoPow x k).1 (twoPow x k).2 (root (k + 1)).1 (root (k + 1)).2).1, (spanMul (twoPow x k).1 (twoPow x k).2 (root (k + 1)).1 (root (k + 1)).2).2.1) := by
        rw [twoPow, if_pos (by rw [hi, hbit]; rfl)]
      have hm : h * rootH (k + 1) ≤ powV k * rootH (k + 1) := Nat.mul_le_mul_right _ h3
      rw [e, root_is _ hk] at e1
      rw [spanMul_nat l h _ _ h2 (by omega) r2 (by omega) (by omega)] at e1
      have g1 : l * rootL (k + 1) ≤ h * rootH (k + 1) := Nat.mul_le_mul h2 r2
      have g2 : 268435456 * 268435456 ≤ l * rootL (k + 1) := Nat.mul_le_mul h1 (by omega)
      have g3 : h * rootH (k + 1) ≤ l * rootL (k + 1) + (powV k * 2 + powW k * rootH (k + 1)) := by
        have a1 : h * rootH (k + 1) ≤ h * (rootL (k + 1) + 2) := Nat.mul_le_mul_left _ r4
        have a2 : h * rootL (k + 1) ≤ (l + powW k) * rootL (k + 1) := Nat.mul_le_mul_right _ h4
        have a3 : powW k * rootL (k + 1) ≤ powW k * rootH (k + 1) := Nat.mul_le_mul_left _ r2
        rw [Nat.mul_add] at a1
        rw [Nat.add_mul] at a2
        omega
      have hV : powV (k + 1) = powV k * rootH (k + 1) / 268435456 + 1 := rfl
      have hW : powW (k + 1) = (powV k * 2 + powW k * rootH (k + 1)) / 268435456 + 2 := rfl
      refine ⟨_, _, e1, ?_, by omega, by omega, by omega, by omega, by omega⟩
      rw [hd, hbit, Nat.one_mul]
      refine near_mul hn ⟨?_, ?_⟩ (Nat.div_mul_le_self _ _) (by omega) (l' := rootL (k + 1)) (h' := rootH (k + 1))
      · exact (root_pow_all N (k + 1) hk hN).1
      · exact (root_pow_all N (k + 1) hk hN).2
    · have h0 : x / 2 ^ (16 - (k + 1)) % 2 = 0 := by omega
      have e1 : twoPow x (k + 1) = twoPow x k := by
        rw [twoPow, if_neg (by rw [hi, h0]; decide)]
      refine ⟨l, h, by rw [e1, e], ?_, h1, h2, by omega, by omega, fun h6 => h5 (by omega)⟩
      rw [hd, h0, Nat.zero_mul, Nat.add_zero]
      exact hn

/-- what is known of TwoPower x, x in 0..65535 -/
theorem twoPower_near (N : Nat) (hN : N = 2 ^ 16) (x : Int) (h0 : 0 ≤ x) (h1 : x ≤ 65535) :
    ∃ l h : Nat, twoPower x = ((l : Int), (h : Int)) ∧ Near N x.toNat l h ∧ 268435456 ≤ l ∧ l ≤ h ∧ h ≤ 536870912 ∧ h ≤ l + 200 ∧ (x = 0 → l = 268435456 ∧ h = 268435456) := by
  obtain ⟨l, h, e, hn, g1, g2, g3, g4, g5⟩ := twoPow_near N x.toNat hN (by omega) 16 (by omega)
  have hx : ((x.toNat : Nat) : Int) = x := Int.toNat_of_nonneg h0
  have e1 : x.toNat / 2 ^ (16 - 16) = x.toNat := by simp
  have e2 : x.toNat / 2 ^ (16 - 16) * 2 ^ (16 - 16) = x.toNat := by simp
  rw [e1] at g5
  rw [e2] at hn
  rw [hx] at e
  have hw := pow_end
  refine ⟨l, h, by unfold twoPower; rw [if_pos ⟨h0, h1⟩, e], hn, g1, g2, ?_, by omega, fun h6 => g5 (by omega)⟩
  apply Nat.le_of_not_lt; intro hc
  have n2 : Near N N 536870912 536870912 := near_two
  by_cases hl : l < 536870912
  · have := near_apart (N := N) (by rw [hN]) g1 hn n2 (by omega) (by omega) (by omega)
    omega
  · have := near_apart (N := N) (by rw [hN]) g1 hn n2 (by omega) (by omega) (by omega)
    omega
/-- the width, and where the next one begins -/
theorem twoPower_next (x y : Int) (h0 : 0 ≤ x) (h1 : x < y) (h2 : y ≤ 65535) : (twoPower x).2 < (twoPower y).1 := by
  obtain ⟨l, h, e, n, g1, g2, g3, g4, -⟩ := twoPower_near (2 ^ 16) rfl x h0 (by omega)
  obtain ⟨l', h', e', n', g1', g2', g3', g4', -⟩ := twoPower_near (2 ^ 16) rfl y (by omega) h2
  have := near_apart (N := 2 ^ 16) rfl g1 n n' (by omega) g4 g4'
  rw [e, e']
  show (h : Int) < (l' : Int)
  omega
theorem twoPower_in (x : Int) (h0 : 0 ≤ x) (h1 : x ≤ 65535) : 268435456 ≤ (twoPower x).1 ∧ (twoPower x).1 ≤ (twoPower x).2 ∧ (twoPower x).2 ≤ 536870912 ∧ (twoPower x).2 - (twoPower x).1 ≤ 200 := by
  obtain ⟨l, h, e, n, g1, g2, g3, g4, -⟩ := twoPower_near (2 ^ 16) rfl x h0 h1
  rw [e]
  show (268435456 : Int) ≤ l ∧ (l : Int) ≤ h ∧ (h : Int) ≤ 536870912 ∧ (h : Int) - l ≤ 200
  omega
theorem twoPower_zero : twoPower 0 = (268435456, 268435456) := by
  obtain ⟨l, h, e, -, -, -, -, -, g⟩ := twoPower_near (2 ^ 16) rfl 0 (by omega) (by omega)
  obtain ⟨rfl, rfl⟩ := g rfl
  exact e
theorem ceil_nat (n : Nat) : n ≤ (n + 268435455) / 268435456 * 268435456 := by omega
/-- the product of two powers, beside the power of the sum -/
theorem twoPower_mul (x y : Int) (hx : 0 ≤ x) (hx2 : x ≤ 65535) (hy : 0 ≤ y) (hy2 : y ≤ 65535) :
    ∃ p q : Nat, spanMul (twoPower x).1 (twoPower x).2 (twoPower y).1 (twoPower y).2 = ((p : Int), (q : Int), true) ∧ Near (2 ^ 16) (x.toNat + y.toNat) p q ∧ p ≤ q ∧ q ≤ 1073741824 := by
  obtain ⟨l, h, e, n, g1, g2, g3, g4, -⟩ := twoPower_near (2 ^ 16) rfl x hx hx2
  obtain ⟨l', h', e', n', g1', g2', g3', g4', -⟩ := twoPower_near (2 ^ 16) rfl y hy hy2
  have m : h * h' ≤ 536870912 * 536870912 := Nat.mul_le_mul g3 g3'
  have m2 : l * l' ≤ h * h' := Nat.mul_le_mul g2 g2'
  rw [e, e']
  have hp : l * l' / 268435456 * 268435456 ≤ l * l' := Nat.div_mul_le_self _ _
  have hq : h * h' ≤ (h * h' + 268435455) / 268435456 * 268435456 := ceil_nat _
  have hs := spanMul_nat l h l' h' g2 (by omega) g2' (by omega) (by omega)
  have h3 : l * l' / 268435456 ≤ (h * h' + 268435455) / 268435456 := by omega
  have h4 : (h * h' + 268435455) / 268435456 ≤ 1073741824 := by omega
  exact ⟨_, _, hs, near_mul n n' hp hq, h3, h4⟩
/-- the product with the rest to a whole one has 2 -/
theorem twoPower_rest (x : Int) (h0 : 1 ≤ x) (h1 : x ≤ 65535) :
    ∃ p q : Int, spanMul (twoPower x).1 (twoPower x).2 (twoPower (65536 - x)).1 (twoPower (65536 - x)).2 = (p, q, true) ∧ svalid p q ∧ p ≤ 536870912 ∧ 536870912 ≤ q := by
  obtain ⟨p, q, e, n, g1, g2⟩ := twoPower_mul x (65536 - x) (by omega) h1 (by omega) (by omega)
  have n2 : Near (2 ^ 16) (2 ^ 16) 536870912 536870912 := near_two
  have a1 := near_le (Nat.ne_of_gt (Nat.pow_pos (by decide))) n n2 (by omega)
  have a2 := near_le (Nat.ne_of_gt (Nat.pow_pos (by decide))) n2 n (by omega)
  refine ⟨p, q, e, by unfold svalid; omega, by omega, by omega⟩
/-- the product of the powers of two numbers meets the power of their sum -/
theorem twoPower_sum (x y : Int) (hx : 0 ≤ x) (hy : 0 ≤ y) (hs : x + y ≤ 65535) :
    ∃ p q : Int, spanMul (twoPower x).1 (twoPower x).2 (twoPower y).1 (twoPower y).2 = (p, q, true) ∧ svalid p q ∧ ∃ m k : Int, spanMeet p q (twoPower (x + y)).1 (twoPower (x + y)).2 = (m, k, true) := by
  obtain ⟨p, q, e, n, g1, g2⟩ := twoPower_mul x y hx (by omega) hy (by omega)
  obtain ⟨l, h, e', n', g1', g2', g3', g4', -⟩ := twoPower_near (2 ^ 16) rfl (x + y) (by omega) hs
  have a1 := near_le (Nat.ne_of_gt (Nat.pow_pos (by decide))) n n' (by omega)
  have a2 := near_le (Nat.ne_of_gt (Nat.pow_pos (by decide))) n' n (by omega)
  have v1 : svalid (p : Int) q := by unfold svalid; omega
  refine ⟨(p : Int), (q : Int), e, v1, max (p : Int) l, min (q : Int) h, ?_⟩
  rw [e']
  unfold spanMeet
  have v2 : svalid (l : Int) h := by unfold svalid; omega
  rw [if_pos ⟨v1, v2⟩, good_yes]
  unfold svalid
  omega

end Fx
