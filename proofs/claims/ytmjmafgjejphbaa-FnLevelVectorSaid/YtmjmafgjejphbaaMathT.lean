/-
  Plain laws on arc tangents, the circle number, steps of rotations, their growth and starts. No program in sight.
-/
import Derived.Test.YtmjmafgjejphbaaMathS3
namespace Fx

/-! ### Arc tangents -/
/-- the terms from number j on; p: the power of k for number j -/
def arcGo (k : Int) : Nat → Nat → Int → Int → Int → Int × Int
  | 0, _, _, l, h => (l, h)
  | f + 1, j, p, l, h => if (2 * (j : Int) + 1) * p ≤ 268435456 then
      (if j % 2 = 0 then arcGo k f (j + 1) (p * (k * k)) (l + 268435456 / ((2 * (j : Int) + 1) * p)) (h + -(-268435456 / ((2 * (j : Int) + 1) * p)))
       else arcGo k f (j + 1) (p * (k * k)) (l + -(-(-268435456 / ((2 * (j : Int) + 1) * p)))) (h + -(268435456 / ((2 * (j : Int) + 1) * p))))
      else (l, h)
def arc (k : Int) : Int × Int := arcGo k 20 0 k (-1) 1
def arcSpan (k : Int) : Int × Int := if 2 ≤ k ∧ k ≤ 65536 then arc k else (0, 0)
def piSpan : Int × Int := (16 * (arc 5).1 - 4 * (arc 239).2, 16 * (arc 5).2 - 4 * (arc 239).1)
/-- the angle of a step -/
def stepA : Nat → Int
  | 0 => 8388608
  | k + 1 => if k < 16 then rnd (rnd ((spanDiv (arc (2 ^ (k + 1))).1 (arc (2 ^ (k + 1))).2 piSpan.1 piSpan.2).1 + (spanDiv (arc (2 ^ (k + 1))).1 (arc (2 ^ (k + 1))).2 piSpan.1 piSpan.2).2.1) 2) 8 else rnd (stepA k) 2
def stepAngle (k : Int) : Int := if 0 ≤ k ∧ k ≤ 20 then stepA k.toNat else -1
/-- the product of the factors of the first k steps -/
def growP : Nat → Int × Int
  | 0 => (268435456, 268435456)
  | k + 1 => ((spanMul (growP k).1 (growP k).2 (268435456 + 268435456 / 4 ^ k) (268435456 + 268435456 / 4 ^ k + (if 268435456 % 4 ^ k = 0 then 0 else 1))).1,
      (spanMul (growP k).1 (growP k).2 (268435456 + 268435456 / 4 ^ k) (268435456 + 268435456 / 4 ^ k + (if 268435456 % 4 ^ k = 0 then 0 else 1))).2.1)
def growS (k : Nat) : Int × Int := ((spanSqrt (growP k).1 (growP k).2).1, (spanSqrt (growP k).1 (growP k).2).2.1)
def growthSpan (n : Int) : Int × Int := if 0 ≤ n ∧ n ≤ 20 then growS n.toNat else (0, 0)
def startS (k : Nat) : Int := (spanDiv 268435456 268435456 (growS k).1 (growS k).2).1
def startOf (n : Int) : Int := if 0 ≤ n ∧ n ≤ 20 then startS n.toNat else -1

end Fx
