/-
  Plain laws on rotations. No program in sight.
-/
import Derived.Test.YtmjmafgjejphbaaMathT2
namespace Fx

/-- the vector and the angle that is left, after k steps -/
def turn (X Y a : Int) : Nat → Int × Int × Int
  | 0 => (X, Y, a)
  | k + 1 => if 0 ≤ (turn X Y a k).2.2 then ((turn X Y a k).1 - (turn X Y a k).2.1 / 2 ^ k, (turn X Y a k).2.1 + (turn X Y a k).1 / 2 ^ k, (turn X Y a k).2.2 - stepA k)
      else ((turn X Y a k).1 + (turn X Y a k).2.1 / 2 ^ k, (turn X Y a k).2.1 - (turn X Y a k).1 / 2 ^ k, (turn X Y a k).2.2 + stepA k)
/-- the vector and the angle by which it was rotated to the right, after k steps -/
def level (X Y : Int) : Nat → Int × Int × Int
  | 0 => (X, Y, 0)
  | k + 1 => if 0 < (level X Y k).2.1 then ((level X Y k).1 + (level X Y k).2.1 / 2 ^ k, (level X Y k).2.1 - (level X Y k).1 / 2 ^ k, (level X Y k).2.2 + stepA k)
      else ((level X Y k).1 - (level X Y k).2.1 / 2 ^ k, (level X Y k).2.1 + (level X Y k).1 / 2 ^ k, (level X Y k).2.2 - stepA k)
abbrev VecIn (X Y : Int) : Prop := (-1099511627776 ≤ X ∧ X ≤ 1099511627776) ∧ -1099511627776 ≤ Y ∧ Y ≤ 1099511627776
def turnVector (X Y a n : Int) : Int × Int × Int × Bool := if VecIn X Y ∧ (-67108864 ≤ a ∧ a ≤ 67108864) ∧ 0 ≤ n ∧ n ≤ 20 then ((turn X Y a n.toNat).1, (turn X Y a n.toNat).2.1, (turn X Y a n.toNat).2.2, true) else (0, 0, 0, false)
def levelVector (X Y n : Int) : Int × Int × Int × Bool := if VecIn X Y ∧ 0 ≤ n ∧ n ≤ 20 then ((level X Y n.toNat).1, (level X Y n.toNat).2.1, (level X Y n.toNat).2.2, true) else (0, 0, 0, false)

/-! ### How great the numbers get -/
theorem floor_far {x m : Int} (k : Nat) (hm : 0 ≤ m) (h : -m ≤ x ∧ x ≤ m) : -m ≤ x / 2 ^ k ∧ x / 2 ^ k ≤ m := ediv_bounds x _ (one_le_pow k) m hm h
theorem turn_size {X Y a : Int} (h : VecIn X Y) (ha : -67108864 ≤ a ∧ a ≤ 67108864) : ∀ k : Nat, k ≤ 20 →
    (-(2 : Int) ^ (40 + k) ≤ (turn X Y a k).1 ∧ (turn X Y a k).1 ≤ 2 ^ (40 + k)) ∧ (-(2 : Int) ^ (40 + k) ≤ (turn X Y a k).2.1 ∧ (turn X Y a k).2.1 ≤ 2 ^ (40 + k)) ∧ -(67108864 + 8388608 * (k : Int)) ≤ (turn X Y a k).2.2 ∧ (turn X Y a k).2.2 ≤ 67108864 + 8388608 * (k : Int)
  | 0, _ => by unfold VecIn at h; show (-(2 : Int) ^ 40 ≤ X ∧ X ≤ 2 ^ 40) ∧ (-(2 : Int) ^ 40 ≤ Y ∧ Y ≤ 2 ^ 40) ∧ _; simp only [turn]; omega
  | k + 1, hk => by
    obtain ⟨h1, h2, h3⟩ := turn_size h ha k (by omega)
    have e : (2 : Int) ^ (40 + (k + 1)) = 2 ^ (40 + k) + 2 ^ (40 + k) := by rw [show 40 + (k + 1) = 40 + k + 1 from rfl, pow_split]; omega
    have hp := one_le_pow (40 + k)
    have f1 := floor_far k (by omega) h1
    have f2 := floor_far k (by omega) h2
    have hs := step_size k (by omega)
    rw [e, turn]
    split <;> simp only <;> omega
theorem level_size {X Y : Int} (h : VecIn X Y) : ∀ k : Nat, k ≤ 20 →
    (-(2 : Int) ^ (40 + k) ≤ (level X Y k).1 ∧ (level X Y k).1 ≤ 2 ^ (40 + k)) ∧ (-(2 : Int) ^ (40 + k) ≤ (level X Y k).2.1 ∧ (level X Y k).2.1 ≤ 2 ^ (40 + k)) ∧ -(8388608 * (k : Int)) ≤ (level X Y k).2.2 ∧ (level X Y k).2.2 ≤ 8388608 * (k : Int)
  | 0, _ => by unfold VecIn at h; show (-(2 : Int) ^ 40 ≤ X ∧ X ≤ 2 ^ 40) ∧ (-(2 : Int) ^ 40 ≤ Y ∧ Y ≤ 2 ^ 40) ∧ _; simp only [level]; omega
  | k + 1, hk => by
    obtain ⟨h1, h2, h3⟩ := level_size h k (by omega)
    have e : (2 : Int) ^ (40 + (k + 1)) = 2 ^ (40 + k) + 2 ^ (40 + k) := by rw [show 40 + (k + 1) = 40 + k + 1 from rfl, pow_split]; omega
    have hp := one_le_pow (40 + k)
    have f1 := floor_far k (by omega) h1
    have f2 := floor_far k (by omega) h2
    have hs := step_size k (by omega)
    rw [e, level]
    split <;> simp only <;> omega

/-! ### The angle that is left -/
def turnB : Nat → Int
  | 0 => 8388608
  | k + 1 => max (stepTab.getD k 0) (turnB k - stepTab.getD k 0)
theorem turn_left {X Y a : Int} (ha : -8388608 ≤ a ∧ a ≤ 8388608) : ∀ k : Nat, k ≤ 20 → -turnB k ≤ (turn X Y a k).2.2 ∧ (turn X Y a k).2.2 ≤ turnB k
  | 0, _ => ha
  | k + 1, hk => by
    have ih := turn_left (X := X) (Y := Y) ha k (by omega)
    rw [turn, turnB, step_is k (by omega)]
    split <;> simp only <;> omega
theorem turn_small {X Y a : Int} (ha : -8388608 ≤ a ∧ a ≤ 8388608) (n : Nat) (h1 : 1 ≤ n) (h2 : n ≤ 20) : (turn X Y a n).2.2 ≤ stepA (n - 1) + 200 ∧ -stepA (n - 1) - 200 ≤ (turn X Y a n).2.2 := by
  have h : (List.range 20).all (fun k => decide (turnB (k + 1) ≤ stepTab.getD k 0 + 200)) = true := by decide +kernel
  rw [List.all_eq_true] at h
  have h3 := h (n - 1) (List.mem_range.2 (by omega))
  rw [show n - 1 + 1 = n by omega] at h3
  have h4 := turn_left (X := X) (Y := Y) ha n h2
  rw [step_is (n - 1) (by omega)]
  simp only [decide_eq_true_eq] at h3
  omega

/-! ### Cosines and sines of an eighth of a turn -/
def turnGo : List Int → Nat → Int → Int → Int → Int × Int
  | [], _, X, Y, _ => (X, Y)
  | s :: t, k, X, Y, a => if 0 ≤ a then turnGo t (k + 1) (X - Y / 2 ^ k) (Y + X / 2 ^ k) (a - s) else turnGo t (k + 1) (X + Y / 2 ^ k) (Y - X / 2 ^ k) (a + s)
theorem turn_go (X Y a : Int) : ∀ (l : List Int) (k : Nat), (∀ i, i < l.length → l[i]? = some (stepA (k + i))) → ((turn X Y a (k + l.length)).1, (turn X Y a (k + l.length)).2.1) = turnGo l k (turn X Y a k).1 (turn X Y a k).2.1 (turn X Y a k).2.2
  | [], k, _ => rfl
  | s :: t, k, h => by
    have h0 : s = stepA k := by simpa using h 0 (by simp)
    have ih := turn_go X Y a t (k + 1) (fun i hi => by have := h (i + 1) (by simp; omega); simpa [Nat.add_assoc, Nat.add_comm 1 i] using this)
    rw [show k + (s :: t).length = k + 1 + t.length by simp; omega, ih, turnGo, turn, h0]
    split <;> rfl
theorem turn_20 (X Y a : Int) : ((turn X Y a 20).1, (turn X Y a 20).2.1) = turnGo (stepTab.take 20) 0 X Y a := by
  have h := turn_go X Y a (stepTab.take 20) 0 (fun i hi => by
    have hi2 : i < 20 := by simpa [stepTab] using hi
    rw [Nat.zero_add, step_is i (by omega), List.getElem?_take_of_lt hi2, List.getD_eq_getElem?_getD, List.getElem?_eq_getElem (by simp [stepTab]; omega)]
    rfl)
  exact h
def eighth (a : Int) : Int × Int := if a = 0 then (16384, 0) else (min (rnd (turn (startS 20) 0 (a * 1024) 20).1 16384) 16384, max (rnd (turn (startS 20) 0 (a * 1024) 20).2.1 16384) 0)
def eighthGo (a : Int) : Int × Int := if a = 0 then (16384, 0) else (min (rnd (turnGo (stepTab.take 20) 0 163008216 0 (a * 1024)).1 16384) 16384, max (rnd (turnGo (stepTab.take 20) 0 163008216 0 (a * 1024)).2 16384) 0)
theorem eighth_go (a : Int) : eighth a = eighthGo a := by
  have h := turn_20 (startS 20) 0 (a * 1024)
  have e : startS 20 = 163008216 := start_is 20 (by omega)
  rw [e] at h
  have h1 := congrArg Prod.fst h
  have h2 := congrArg Prod.snd h
  unfold eighth eighthGo
  rw [e, ← h1, ← h2]
def eighthOk (a : Int) : Bool :=
  match eighthGo a with
  | (c, s) => decide (0 ≤ c) && (decide (c ≤ 16384) && (decide (0 ≤ s) && (decide (s ≤ 16384) && (decide (c * c + s * s - 268435456 ≤ 65536) && decide (-(c * c + s * s - 268435456) ≤ 65536)))))
set_option maxRecDepth 100000 in
theorem eighth_all0 : (List.range 2049).all (fun i => eighthOk (i : Int)) = true := by decide +kernel
set_option maxRecDepth 100000 in
theorem eighth_all1 : (List.range 2048).all (fun i => eighthOk ((i : Int) + 2049)) = true := by decide +kernel
set_option maxRecDepth 100000 in
theorem eighth_all2 : (List.range 2048).all (fun i => eighthOk ((i : Int) + 4097)) = true := by decide +kernel
set_option maxRecDepth 100000 in
theorem eighth_all3 : (List.range 2048).all (fun i => eighthOk ((i : Int) + 6145)) = true := by decide +kernel
theorem all_at {n : Nat} {f : Nat → Bool} (h : (List.range n).all f = true) (i : Nat) (hi : i < n) : f i = true := by
  rw [List.all_eq_true] at h
  exact h i (List.mem_range.2 hi)
theorem eighth_law (a : Int) (h0 : 0 ≤ a) (h1 : a ≤ 8192) : (0 ≤ (eighth a).1 ∧ (eighth a).1 ≤ 16384) ∧ (0 ≤ (eighth a).2 ∧ (eighth a).2 ≤ 16384) ∧
    (eighth a).1 * (eighth a).1 + (eighth a).2 * (eighth a).2 - 268435456 ≤ 65536 ∧ -((eighth a).1 * (eighth a).1 + (eighth a).2 * (eighth a).2 - 268435456) ≤ 65536 := by
  have h : eighthOk a = true := by
    by_cases c1 : a ≤ 2048
    · have := all_at eighth_all0 a.toNat (by omega)
      rwa [show ((a.toNat : Nat) : Int) = a by omega] at this
    · by_cases c2 : a ≤ 4096
      · have := all_at eighth_all1 (a - 2049).toNat (by omega)
        rwa [show (((a - 2049).toNat : Nat) : Int) + 2049 = a by omega] at this
      · by_cases c3 : a ≤ 6144
        · have := all_at eighth_all2 (a - 4097).toNat (by omega)
          rwa [show (((a - 4097).toNat : Nat) : Int) + 4097 = a by omega] at this
        · have := all_at eighth_all3 (a - 6145).toNat (by omega)
          rwa [show (((a - 6145).toNat : Nat) : Int) + 6145 = a by omega] at this
  rw [eighth_go]
  unfold eighthOk at h
  simp only [Bool.and_eq_true, decide_eq_true_eq] at h
  omega
theorem eighth_zero : eighth 0 = (16384, 0) := if_pos rfl
theorem eighth_mid : eighth 8192 = (11585, 11585) := by rw [eighth_go]; decide +kernel

end Fx
