/-
  Plain laws on powers: what comes of roots of 2 and of products of them. No program in sight.
-/
import Derived.Test.YtmjmafgjejphbaaMathS2
namespace Fx

def spanPow (a b : Int) : Nat → Int × Int × Bool
  | 0 => (268435456, 268435456, true)
  | k + 1 => if (spanPow a b k).2.2 = true then spanMul (spanPow a b k).1 (spanPow a b k).2.1 a b else (0, 0, false)
def spanPower (a b n : Int) : Int × Int × Bool := if svalid a b ∧ 0 ≤ n ∧ n ≤ 20 then spanPow a b n.toNat else (0, 0, false)
/-- the root of 2 after k roots -/
def root : Nat → Int × Int
  | 0 => (536870912, 536870912)
  | k + 1 => ((spanSqrt (root k).1 (root k).2).1, (spanSqrt (root k).1 (root k).2).2.1)
def twoRoot (k : Int) : Int × Int := if 0 ≤ k ∧ k ≤ 16 then root k.toNat else (0, 0)
/-- the product of the roots for the first k binary digits of x -/
def twoPow (x : Int) : Nat → Int × Int
  | 0 => (268435456, 268435456)
  | k + 1 => if x / 2 ^ (16 - (k + 1)) % 2 = 1 then ((spanMul (twoPow x k).1 (twoPow x k).2 (root (k + 1)).1 (root (k + 1)).2).1, (spanMul (twoPow x k).1 (twoPow x k).2 (root (k + 1)).1 (root (k + 1)).2).2.1) else twoPow x k
def twoPower (x : Int) : Int × Int := if 0 ≤ x ∧ x ≤ 65535 then twoPow x 16 else (0, 0)

/-! ### The roots, as numbers -/
def rootL (k : Nat) : Nat := [536870912, 379625062, 319225353, 292730939, 280320108, 274313426, 271358525, 269893033, 269163257, 268799110, 268617221, 268526323, 268480885, 268458169, 268446812, 268441133, 268438294].getD k 0
def rootH (k : Nat) : Nat := [536870912, 379625063, 319225355, 292730941, 280320110, 274313428, 271358527, 269893035, 269163259, 268799112, 268617223, 268526325, 268480887, 268458171, 268446814, 268441135, 268438296].getD k 0
theorem root_is (k : Nat) (hk : k ≤ 16) : root k = ((rootL k : Int), (rootH k : Int)) := by
  have h : (List.range 17).all (fun k => root k == ((rootL k : Int), (rootH k : Int))) = true := by decide +kernel
  rw [List.all_eq_true] at h
  simpa using h k (List.mem_range.2 (by omega))
theorem root_step (k : Nat) (hk : k < 16) : rootL (k + 1) ^ 2 ≤ rootL k * 268435456 ∧ rootH k * 268435456 ≤ rootH (k + 1) ^ 2 := by
  have h : (List.range 16).all (fun k => decide (rootL (k + 1) ^ 2 ≤ rootL k * 268435456) && decide (rootH k * 268435456 ≤ rootH (k + 1) ^ 2)) = true := by decide +kernel
  rw [List.all_eq_true] at h
  simpa using h k (List.mem_range.2 hk)
theorem root_in (k : Nat) (hk : k ≤ 16) : 268435456 < rootL k ∧ rootL k ≤ rootH k ∧ rootH k ≤ 536870912 ∧ rootH k ≤ rootL k + 2 := by
  have h : (List.range 17).all (fun k => decide (268435456 < rootL k) && (decide (rootL k ≤ rootH k) && (decide (rootH k ≤ 536870912) && decide (rootH k ≤ rootL k + 2)))) = true := by decide +kernel
  rw [List.all_eq_true] at h
  simpa using h k (List.mem_range.2 (by omega))

/-- the power with 2^k of the root number k is 2, but for rounding -/
theorem root_pow : ∀ k : Nat, k ≤ 16 → rootL k ^ 2 ^ k ≤ 2 * 268435456 ^ 2 ^ k ∧ 2 * 268435456 ^ 2 ^ k ≤ rootH k ^ 2 ^ k
  | 0, _ => by simp [rootL, rootH]
  | k + 1, h => by
    obtain ⟨i1, i2⟩ := root_pow k (by omega)
    obtain ⟨s1, s2⟩ := root_step k (by omega)
    have e : (2 : Nat) ^ (k + 1) = 2 * 2 ^ k := by rw [Nat.pow_succ, Nat.mul_comm]
    have f : 2 * 268435456 ^ (2 * 2 ^ k) = (2 * 268435456 ^ 2 ^ k) * 268435456 ^ 2 ^ k := by rw [Nat.two_mul (2 ^ k), Nat.pow_add, Nat.mul_assoc]
    rw [e, f, Nat.pow_mul, Nat.pow_mul]
    constructor
    · refine Nat.le_trans (Nat.pow_le_pow_left s1 _) ?_
      rw [Nat.mul_pow]
      exact Nat.mul_le_mul_right _ i1
    · refine Nat.le_trans ?_ (Nat.pow_le_pow_left s2 _)
      rw [Nat.mul_pow]
      exact Nat.mul_le_mul_right _ i2
/-- the same, with one exponent for all of them -/
theorem root_pow_all (N k : Nat) (hk : k ≤ 16) (hN : N = 2 ^ 16) : rootL k ^ N ≤ 2 ^ 2 ^ (16 - k) * 268435456 ^ N ∧ 2 ^ 2 ^ (16 - k) * 268435456 ^ N ≤ rootH k ^ N := by
  obtain ⟨i1, i2⟩ := root_pow k hk
  have e : N = 2 ^ k * 2 ^ (16 - k) := by rw [hN, ← Nat.pow_add, show k + (16 - k) = 16 by omega]
  have f : 2 ^ 2 ^ (16 - k) * 268435456 ^ N = (2 * 268435456 ^ 2 ^ k) ^ 2 ^ (16 - k) := by rw [e, Nat.mul_pow, Nat.pow_mul]
  rw [f, e, Nat.pow_mul, Nat.pow_mul]
  exact ⟨Nat.pow_le_pow_left i1 _, Nat.pow_le_pow_left i2 _⟩

/-! ### Products -/
/-- what is known of the span (l, h) for 2^(e / N) -/
structure Near (N e l h : Nat) : Prop where
  lo : l ^ N ≤ 2 ^ e * 268435456 ^ N
  hi : 2 ^ e * 268435456 ^ N ≤ h ^ N

theorem near_mul {N e f l h l' h' p q : Nat} (a : Near N e l h) (b : Near N f l' h') (hp : p * 268435456 ≤ l * l') (hq : h * h' ≤ q * 268435456) : Near N (e + f) p q := by
  have hB : 0 < 268435456 ^ N := Nat.pow_pos (by decide)
  have e1 : 2 ^ (e + f) * 268435456 ^ N * 268435456 ^ N = (2 ^ e * 268435456 ^ N) * (2 ^ f * 268435456 ^ N) := by
    rw [Nat.pow_add]; ac_rfl
  constructor
  · refine Nat.le_of_mul_le_mul_right ?_ hB
    rw [e1, ← Nat.mul_pow]
    refine Nat.le_trans (Nat.pow_le_pow_left hp N) ?_
    rw [Nat.mul_pow]
    exact Nat.mul_le_mul a.lo b.lo
  · refine Nat.le_of_mul_le_mul_right ?_ hB
    rw [e1, ← Nat.mul_pow]
    refine Nat.le_trans ?_ (Nat.pow_le_pow_left hq N)
    rw [Nat.mul_pow]
    exact Nat.mul_le_mul a.hi b.hi

/-- what is a little greater has a power that is a little greater -/
theorem pow_grow (a d : Nat) : ∀ n : Nat, n * d ≤ a → (a + d) ^ n * (a - n * d) ≤ a ^ n * a
  | 0, _ => by simp
  | n + 1, h => by
    have h1 : n * d + d ≤ a := by rw [← Nat.succ_mul]; exact h
    have ih := pow_grow a d n (by omega)
    have hs : (n + 1) * d = n * d + d := Nat.succ_mul n d
    rw [hs]
    have key : (a + d) * (a - (n * d + d)) ≤ a * (a - n * d) := by
      obtain ⟨c, hc⟩ : ∃ c, a = n * d + d + c := ⟨a - (n * d + d), by omega⟩
      have e1 : a - (n * d + d) = c := by omega
      have e2 : a - n * d = c + d := by omega
      rw [e1, e2, Nat.add_mul, Nat.mul_add, Nat.mul_comm d c]
      have : c * d ≤ a * d := Nat.mul_le_mul_right d (by omega)
      omega
    calc (a + d) ^ (n + 1) * (a - (n * d + d)) = (a + d) ^ n * ((a + d) * (a - (n * d + d))) := by rw [Nat.pow_succ, Nat.mul_assoc]
      _ ≤ (a + d) ^ n * (a * (a - n * d)) := Nat.mul_le_mul_left _ key
      _ = ((a + d) ^ n * (a - n * d)) * a := by ac_rfl
      _ ≤ (a ^ n * a) * a := Nat.mul_le_mul_right _ ih
      _ = a ^ (n + 1) * a := by rw [Nat.pow_succ]

/-- a number at least 2^28 and the one greater by 400 have powers with 2^16 of which the second is less than twice the first -/
theorem pow_apart {N a : Nat} (hN : N = 65536) (ha : 268435456 ≤ a) : (a + 400) ^ N < 2 * a ^ N := by
  apply Nat.lt_of_not_le; intro hc
  have h := pow_grow a 400 N (by omega)
  have h1 : 2 * a ^ N * (a - N * 400) ≤ a ^ N * a := Nat.le_trans (Nat.mul_le_mul_right _ hc) h
  have h2 : a ^ N * (2 * (a - N * 400)) ≤ a ^ N * a := by rw [← Nat.mul_assoc, Nat.mul_comm (a ^ N) 2]; exact h1
  have h3 := Nat.le_of_mul_le_mul_left h2 (Nat.pow_pos (by omega))
  omega

/-- two spans at most 200 units wide, the second for a greater power -/
theorem near_apart {N e f l h l' h' : Nat} (hN : N = 65536) (hl : 268435456 ≤ l) (a : Near N e l h) (b : Near N f l' h') (hef : e < f) (w1 : h ≤ l + 200) (w2 : h' ≤ l' + 200) : h < l' := by
  apply Nat.lt_of_not_le; intro hc
  have h1 : h' ≤ l + 400 := by omega
  have h2 := pow_apart hN hl
  have h3 := Nat.le_trans b.hi (Nat.pow_le_pow_left h1 N)
  have h4 : 2 * l ^ N ≤ 2 * (2 ^ e * 268435456 ^ N) := Nat.mul_le_mul_left 2 a.lo
  have h5 : 2 * (2 ^ e * 268435456 ^ N) ≤ 2 ^ f * 268435456 ^ N := by
    rw [← Nat.mul_assoc, Nat.mul_comm 2, ← Nat.pow_succ]
    exact Nat.mul_le_mul_right _ (Nat.pow_le_pow_right (by decide) hef)
  omega
/-- lesser powers have lesser Low and High -/
theorem near_le {N e f l h l' h' : Nat} (hN : N ≠ 0) (a : Near N e l h) (b : Near N f l' h') (hef : e ≤ f) : l ≤ h' := by
  have h1 : 2 ^ e * 268435456 ^ N ≤ 2 ^ f * 268435456 ^ N := Nat.mul_le_mul_right _ (Nat.pow_le_pow_right (by decide) hef)
  exact (Nat.pow_le_pow_iff_left hN).1 (Nat.le_trans a.lo (Nat.le_trans h1 b.hi))
/-- the number 2 -/
theorem near_two {N : Nat} : Near N N 536870912 536870912 := by
  have e : 2 ^ N * 268435456 ^ N = 536870912 ^ N := by rw [← Nat.mul_pow]
  exact ⟨by rw [e]; exact Nat.le_refl _, by rw [e]; exact Nat.le_refl _⟩
theorem near_one {N : Nat} : Near N 0 268435456 268435456 := ⟨by simp, by simp⟩

end Fx
