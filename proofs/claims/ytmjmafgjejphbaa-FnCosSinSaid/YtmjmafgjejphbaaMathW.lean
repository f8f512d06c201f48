/-
  Plain laws on cosines and sines. No program in sight.
-/
import Derived.Test.YtmjmafgjejphbaaMathV
namespace Fx

/-- the cosine and the sine of an angle in 0..16383 -/
def fold (t : Int) : Int × Int := if t ≤ 8192 then eighth t else ((eighth (16384 - t)).2, (eighth (16384 - t)).1)
/-- k quarter turns -/
def rot (c s : Int) : Nat → Int × Int
  | 0 => (c, s)
  | k + 1 => (-(rot c s k).2, (rot c s k).1)
def cosSin (a : Int) : Int × Int := if Work a then rot (fold (a % 65536 % 16384)).1 (fold (a % 65536 % 16384)).2 (a % 65536 / 16384).toNat else (0, 0)

theorem fold_law (t : Int) (h0 : 0 ≤ t) (h1 : t ≤ 16383) : (0 ≤ (fold t).1 ∧ (fold t).1 ≤ 16384) ∧ (0 ≤ (fold t).2 ∧ (fold t).2 ≤ 16384) ∧
    (fold t).1 * (fold t).1 + (fold t).2 * (fold t).2 - 268435456 ≤ 65536 ∧ -((fold t).1 * (fold t).1 + (fold t).2 * (fold t).2 - 268435456) ≤ 65536 := by
  unfold fold
  split
  · exact eighth_law t h0 (by assumption)
  · have := eighth_law (16384 - t) (by omega) (by omega)
    simp only
    omega
theorem fold_mirror (t : Int) (h0 : 1 ≤ t) (h1 : t ≤ 16383) : fold (16384 - t) = ((fold t).2, (fold t).1) := by
  unfold fold
  by_cases c1 : t = 8192
  · subst c1
    rw [if_pos (by omega), if_pos (by omega), show (16384 : Int) - 8192 = 8192 by omega, eighth_mid]
  · by_cases c2 : t ≤ 8192
    · rw [if_neg (by omega), if_pos c2, show 16384 - (16384 - t) = t by omega]
    · rw [if_pos (by omega), if_neg c2]
theorem fold_zero : fold 0 = (16384, 0) := by unfold fold; rw [if_pos (by omega), eighth_zero]

/-- quarter and rest, for a whole number of turns more or less -/
theorem cosSin_at (q n t : Int) (hq : 0 ≤ q ∧ q ≤ 3) (ht : 0 ≤ t ∧ t ≤ 16383) (hn : -4 ≤ n ∧ n ≤ 4) : cosSin (65536 * n + 16384 * q + t) = rot (fold t).1 (fold t).2 q.toNat := by
  unfold cosSin
  have e1 : (65536 * n + 16384 * q + t) % 65536 = 16384 * q + t := by omega
  have e2 : (16384 * q + t) % 16384 = t := by omega
  have e3 : (16384 * q + t) / 16384 = q := by omega
  rw [if_pos (by unfold Work; omega), e1, e2, e3]
theorem cosSin_is (a : Int) (h : Work a) : ∃ q t : Int, (0 ≤ q ∧ q ≤ 3) ∧ (0 ≤ t ∧ t ≤ 16383) ∧ a % 65536 = 16384 * q + t ∧ cosSin a = rot (fold t).1 (fold t).2 q.toNat := by
  refine ⟨a % 65536 / 16384, a % 65536 % 16384, by omega, by omega, by omega, ?_⟩
  unfold cosSin
  rw [if_pos h]
theorem rot_cases (c s : Int) : rot c s 0 = (c, s) ∧ rot c s 1 = (-s, c) ∧ rot c s 2 = (-c, -s) ∧ rot c s 3 = (s, -c) := by
  refine ⟨rfl, rfl, rfl, ?_⟩
  show (- -s, -c) = (s, -c)
  rw [Int.neg_neg]
theorem quarters {q : Int} (h : 0 ≤ q ∧ q ≤ 3) : q = 0 ∨ q = 1 ∨ q = 2 ∨ q = 3 := by omega

/-- by a quarter more; the opposite angle; the mirrored one -/
theorem cosSin_law (a : Int) (h : Work a) :
    cosSin (a % 65536 + 16384) = (-(cosSin a).2, (cosSin a).1) ∧ cosSin (-(a % 65536)) = ((cosSin a).1, -(cosSin a).2) ∧ (cosSin (32768 - a % 65536)).2 = (cosSin a).2 ∧
    (-16384 ≤ (cosSin a).1 ∧ (cosSin a).1 ≤ 16384) ∧ (-16384 ≤ (cosSin a).2 ∧ (cosSin a).2 ≤ 16384) ∧
    (cosSin a).1 * (cosSin a).1 + (cosSin a).2 * (cosSin a).2 - 268435456 ≤ 65536 ∧ -((cosSin a).1 * (cosSin a).1 + (cosSin a).2 * (cosSin a).2 - 268435456) ≤ 65536 := by
  obtain ⟨q, t, hq, ht, e, ec⟩ := cosSin_is a h
  obtain ⟨f1, f2, f3, f4⟩ := fold_law t ht.1 ht.2
  rw [e, ec]
  obtain ⟨r0, r1, r2, r3⟩ := rot_cases (fold t).1 (fold t).2
  by_cases h0 : t = 0
  · subst h0
    have g := fold_zero
    rcases quarters hq with rfl | rfl | rfl | rfl
    · have x1 := cosSin_at 1 0 0 (by omega) (by omega) (by omega)
      have x2 := cosSin_at 0 0 0 (by omega) (by omega) (by omega)
      have x3 := cosSin_at 2 0 0 (by omega) (by omega) (by omega)
      rw [g] at *
      simp only [Int.reduceMul, Int.reduceAdd, Int.reduceNeg, Int.reduceSub, Int.reduceToNat] at *
      rw [x1, show -(0 : Int) = 0 by omega, x2, x3]; simp [rot]
    · have x1 := cosSin_at 2 0 0 (by omega) (by omega) (by omega)
      have x2 := cosSin_at 3 (-1) 0 (by omega) (by omega) (by omega)
      have x3 := cosSin_at 1 0 0 (by omega) (by omega) (by omega)
      rw [g] at *
      simp only [Int.reduceMul, Int.reduceAdd, Int.reduceNeg, Int.reduceSub, Int.reduceToNat] at *
      rw [x1, x2, x3]; simp [rot]
    · have x1 := cosSin_at 3 0 0 (by omega) (by omega) (by omega)
      have x2 := cosSin_at 2 (-1) 0 (by omega) (by omega) (by omega)
      have x3 := cosSin_at 0 0 0 (by omega) (by omega) (by omega)
      rw [g] at *
      simp only [Int.reduceMul, Int.reduceAdd, Int.reduceNeg, Int.reduceSub, Int.reduceToNat] at *
      rw [x1, x2, x3]; simp [rot]
    · have x1 := cosSin_at 0 1 0 (by omega) (by omega) (by omega)
      have x2 := cosSin_at 1 (-1) 0 (by omega) (by omega) (by omega)
      have x3 := cosSin_at 3 (-1) 0 (by omega) (by omega) (by omega)
      rw [g] at *
      simp only [Int.reduceMul, Int.reduceAdd, Int.reduceNeg, Int.reduceSub, Int.reduceToNat] at *
      rw [x1, x2, x3]; simp [rot]
  · have m := fold_mirror t (by omega) ht.2
    have y1 : ∀ q n : Int, 0 ≤ q ∧ q ≤ 3 → -4 ≤ n ∧ n ≤ 4 → ∀ b, b = 65536 * n + 16384 * q + t → cosSin b = rot (fold t).1 (fold t).2 q.toNat := fun q n h1 h2 b hb => by rw [hb]; exact cosSin_at q n t h1 ht h2
    have y2 : ∀ q n : Int, 0 ≤ q ∧ q ≤ 3 → -4 ≤ n ∧ n ≤ 4 → ∀ b, b = 65536 * n + 16384 * q + (16384 - t) → cosSin b = rot (fold t).2 (fold t).1 q.toNat := fun q n h1 h2 b hb => by
      rw [hb, cosSin_at q n (16384 - t) h1 (by omega) h2, m]
    obtain ⟨s0, s1, s2, s3⟩ := rot_cases (fold t).2 (fold t).1
    generalize (fold t).1 = c at *
    generalize (fold t).2 = s at *
    have n1 : -c * -c = c * c := Int.neg_mul_neg c c
    have n2 : -s * -s = s * s := Int.neg_mul_neg s s
    rcases quarters hq with rfl | rfl | rfl | rfl
    · rw [y1 1 0 (by omega) (by omega) _ (by omega), y2 3 (-1) (by omega) (by omega) _ (by omega), y2 1 0 (by omega) (by omega) _ (by omega)]
      show rot c s 1 = (-(rot c s 0).2, (rot c s 0).1) ∧ rot s c 3 = ((rot c s 0).1, -(rot c s 0).2) ∧ (rot s c 1).2 = (rot c s 0).2 ∧ (-16384 ≤ (rot c s 0).1 ∧ (rot c s 0).1 ≤ 16384) ∧ (-16384 ≤ (rot c s 0).2 ∧ (rot c s 0).2 ≤ 16384) ∧ (rot c s 0).1 * (rot c s 0).1 + (rot c s 0).2 * (rot c s 0).2 - 268435456 ≤ 65536 ∧ -((rot c s 0).1 * (rot c s 0).1 + (rot c s 0).2 * (rot c s 0).2 - 268435456) ≤ 65536
      rw [r0, r1, s1, s3]
      simp only
      refine ⟨trivial, trivial, trivial, ?_⟩
      omega
    · rw [y1 2 0 (by omega) (by omega) _ (by omega), y2 2 (-1) (by omega) (by omega) _ (by omega), y2 0 0 (by omega) (by omega) _ (by omega)]
      show rot c s 2 = (-(rot c s 1).2, (rot c s 1).1) ∧ rot s c 2 = ((rot c s 1).1, -(rot c s 1).2) ∧ (rot s c 0).2 = (rot c s 1).2 ∧ (-16384 ≤ (rot c s 1).1 ∧ (rot c s 1).1 ≤ 16384) ∧ (-16384 ≤ (rot c s 1).2 ∧ (rot c s 1).2 ≤ 16384) ∧ (rot c s 1).1 * (rot c s 1).1 + (rot c s 1).2 * (rot c s 1).2 - 268435456 ≤ 65536 ∧ -((rot c s 1).1 * (rot c s 1).1 + (rot c s 1).2 * (rot c s 1).2 - 268435456) ≤ 65536
      rw [r1, r2, s0, s2]
      simp only [n2]
      refine ⟨trivial, trivial, trivial, ?_⟩
      omega
    · rw [y1 3 0 (by omega) (by omega) _ (by omega), y2 1 (-1) (by omega) (by omega) _ (by omega), y2 3 (-1) (by omega) (by omega) _ (by omega)]
      show rot c s 3 = (-(rot c s 2).2, (rot c s 2).1) ∧ rot s c 1 = ((rot c s 2).1, -(rot c s 2).2) ∧ (rot s c 3).2 = (rot c s 2).2 ∧ (-16384 ≤ (rot c s 2).1 ∧ (rot c s 2).1 ≤ 16384) ∧ (-16384 ≤ (rot c s 2).2 ∧ (rot c s 2).2 ≤ 16384) ∧ (rot c s 2).1 * (rot c s 2).1 + (rot c s 2).2 * (rot c s 2).2 - 268435456 ≤ 65536 ∧ -((rot c s 2).1 * (rot c s 2).1 + (rot c s 2).2 * (rot c s 2).2 - 268435456) ≤ 65536
      rw [r2, r3, s1, s3]
      simp only [Int.neg_neg, n1, n2]
      refine ⟨trivial, trivial, trivial, ?_⟩
      omega
    · rw [y1 0 1 (by omega) (by omega) _ (by omega), y2 0 (-1) (by omega) (by omega) _ (by omega), y2 2 (-1) (by omega) (by omega) _ (by omega)]
      show rot c s 0 = (-(rot c s 3).2, (rot c s 3).1) ∧ rot s c 0 = ((rot c s 3).1, -(rot c s 3).2) ∧ (rot s c 2).2 = (rot c s 3).2 ∧ (-16384 ≤ (rot c s 3).1 ∧ (rot c s 3).1 ≤ 16384) ∧ (-16384 ≤ (rot c s 3).2 ∧ (rot c s 3).2 ≤ 16384) ∧ (rot c s 3).1 * (rot c s 3).1 + (rot c s 3).2 * (rot c s 3).2 - 268435456 ≤ 65536 ∧ -((rot c s 3).1 * (rot c s 3).1 + (rot c s 3).2 * (rot c s 3).2 - 268435456) ≤ 65536
      rw [r0, r3, s0, s2]
      simp only [Int.neg_neg, n1]
      refine ⟨trivial, trivial, trivial, ?_⟩
      omega

end Fx
