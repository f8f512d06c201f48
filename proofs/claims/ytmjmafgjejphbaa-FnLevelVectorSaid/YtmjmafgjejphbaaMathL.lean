/-
  Plain laws on levelled vectors: after all steps the second number is small, and the angle is that of the vector but for some units. No program in sight.
-/
import Derived.Test.YtmjmafgjejphbaaMathV
namespace Fx

/-! ### One step: slopes (in parts of 2^40) before it and behind it -/
/-- one step of a leveling, but for a unit on either side: of the mirrored vector it is the same -/
def LStep (p A x y t x' y' t' : Int) : Prop :=
  (0 ≤ y ∧ (p * x + y - p ≤ p * x' ∧ p * x' ≤ p * x + y + p) ∧ (p * y - x - p ≤ p * y' ∧ p * y' ≤ p * y - x + p) ∧ t' = t + A) ∨
  (y ≤ 0 ∧ (p * x - y - p ≤ p * x' ∧ p * x' ≤ p * x - y + p) ∧ (p * y + x - p ≤ p * y' ∧ p * y' ≤ p * y + x + p) ∧ t' = t - A)
theorem LStep.mirror {p A x y t x' y' t' : Int} (h : LStep p A x y t x' y' t') : LStep p A x (-y) (-t) x' (-y') (-t') := by
  unfold LStep at h ⊢
  simp only [Int.mul_neg]
  omega
/-- a product with a number between two opposite ones -/
theorem mul_far {u d p : Int} (h1 : -2199023255552 ≤ u) (h2 : u ≤ 2199023255552) (h3 : -p ≤ d) (h4 : d ≤ p) : -(2199023255552 * p) ≤ u * d := by
  have a := Int.mul_nonneg (show 0 ≤ u + 2199023255552 by omega) (show 0 ≤ d + p by omega)
  have b := Int.mul_nonneg (show 0 ≤ 2199023255552 - u by omega) (show 0 ≤ p - d by omega)
  simp only [Int.add_mul, Int.sub_mul, Int.mul_add, Int.mul_sub] at a b
  omega
def OkR (p s u : Int) : Prop := (-2199023255552 ≤ u ∧ u ≤ 2199023255552) ∧ u ≤ p * 1099511627776 ∧ 3626777458843887524118528 * p ≤ 1073741824 * ((p * u + 1099511627776) * 1099511627776 - (p * 1099511627776 - u) * s)
def OkL (p s u : Int) : Prop := (-2199023255552 ≤ u ∧ u ≤ 2199023255552) ∧ -u ≤ p * 1099511627776 ∧ 3626777458843887524118528 * p ≤ 1073741824 * ((p * u - 1099511627776) * 1099511627776 - (p * 1099511627776 + u) * s)
instance (p s u : Int) : Decidable (OkR p s u) := by unfold OkR; infer_instance
instance (p s u : Int) : Decidable (OkL p s u) := by unfold OkL; infer_instance
theorem slope_r {p s u x y x' y' : Int} (hp : 0 < p) (hx : 1073741824 ≤ x) (h : y * 1099511627776 ≤ s * x) (k : OkR p s u)
    (f1 : p * x + y - p ≤ p * x') (f2 : p * x' ≤ p * x + y + p) (g : p * y' ≤ p * y - x + p) : y' * 1099511627776 ≤ u * x' := by
  obtain ⟨⟨k1, k2⟩, k3, k4⟩ := k
  have b := mul_far (d := p * x' - (p * x + y)) (p := p) k1 k2 (by omega) (by omega)
  have c := Int.mul_le_mul_of_nonneg_left h (show 0 ≤ p * 1099511627776 - u by omega)
  have d0 : 0 ≤ (p * u + 1099511627776) * 1099511627776 - (p * 1099511627776 - u) * s := by omega
  have d := Int.mul_le_mul_of_nonneg_left hx d0
  refine Int.le_of_mul_le_mul_left (a := p) ?_ hp
  grind
theorem slope_l {p s u x y x' y' : Int} (hp : 0 < p) (hx : 1073741824 ≤ x) (h : y * 1099511627776 ≤ s * x) (k : OkL p s u)
    (f1 : p * x - y - p ≤ p * x') (f2 : p * x' ≤ p * x - y + p) (g : p * y' ≤ p * y + x + p) : y' * 1099511627776 ≤ u * x' := by
  obtain ⟨⟨k1, k2⟩, k3, k4⟩ := k
  have b := mul_far (d := p * x' - (p * x - y)) (p := p) k1 k2 (by omega) (by omega)
  have c := Int.mul_le_mul_of_nonneg_left h (show 0 ≤ p * 1099511627776 + u by omega)
  have d0 : 0 ≤ (p * u - 1099511627776) * 1099511627776 - (p * 1099511627776 + u) * s := by omega
  have d := Int.mul_le_mul_of_nonneg_left hx d0
  refine Int.le_of_mul_le_mul_left (a := p) ?_ hp
  grind

/-! ### The chains of slopes, reckoned -/
def lrr (p s : Int) : Int := (s * p - 1099511627776) * 1099511627776 / (1099511627776 * p + s) + 4096
def lrl (p s : Int) : Int := (s * p + 1099511627776) * 1099511627776 / (1099511627776 * p - s) + 4096
/-- with n steps to come, from step j on, at a slope of at most s, the angle grows by b at most -/
def lgood : Nat → Nat → Int → Int → Bool
  | 0, _, _, b => decide (0 ≤ b)
  | n + 1, j, s, b =>
    if 0 ≤ s then decide (40 ≤ b) && (decide (OkR (2 ^ j) s (lrr (2 ^ j) s)) && lgood n (j + 1) (lrr (2 ^ j) s) (b - stepTab.getD j 0))
    else decide (OkL (2 ^ j) s (lrl (2 ^ j) s)) && lgood n (j + 1) (lrl (2 ^ j) s) (b + stepTab.getD j 0)
theorem lgood_zero (j : Nat) (hj : j < 20) : OkL (2 ^ j) 0 (lrl (2 ^ j) 0) ∧ lgood (19 - j) (j + 1) (lrl (2 ^ j) 0) (40 + stepTab.getD j 0) = true := by
  have h : (List.range 20).all (fun j => decide (OkL (2 ^ j) 0 (lrl (2 ^ j) 0)) && lgood (19 - j) (j + 1) (lrl (2 ^ j) 0) (40 + stepTab.getD j 0)) = true := by decide +kernel
  have := all_at h j hj
  simpa only [Bool.and_eq_true, decide_eq_true_eq] using this
theorem lgood_top : lgood 20 0 1099511627776 8388808 = true := by decide +kernel
theorem lgood_low : lgood 20 0 0 200 = true := by decide +kernel
/-- the greatest slope before step k -/
def lslope : Nat → Int
  | 0 => 1099511627776
  | k + 1 => max (lrr (2 ^ k) (lslope k)) (lrl (2 ^ k) 0)
theorem lslope_ok (k : Nat) (hk : k < 20) : OkR (2 ^ k) (lslope k) (lrr (2 ^ k) (lslope k)) ∧ OkL (2 ^ k) 0 (lrl (2 ^ k) 0) := by
  have h : (List.range 20).all (fun k => decide (OkR (2 ^ k) (lslope k) (lrr (2 ^ k) (lslope k))) && decide (OkL (2 ^ k) 0 (lrl (2 ^ k) 0))) = true := by decide +kernel
  have := all_at h k hk
  simpa only [Bool.and_eq_true, decide_eq_true_eq] using this
theorem lslope_end : lslope 20 ≤ 10995116 := by decide +kernel

/-! ### A row of steps -/
def LRow (f : Nat → Int × Int × Int) : Prop := ∀ k, k < 20 → 1073741824 ≤ (f k).1 ∧ 1073741824 ≤ (f (k + 1)).1 ∧ LStep (2 ^ k) (stepTab.getD k 0) (f k).1 (f k).2.1 (f k).2.2 (f (k + 1)).1 (f (k + 1)).2.1 (f (k + 1)).2.2
theorem LRow.mirror {f : Nat → Int × Int × Int} (h : LRow f) : LRow (fun k => ((f k).1, -(f k).2.1, -(f k).2.2)) := fun k hk => ⟨(h k hk).1, (h k hk).2.1, (h k hk).2.2.mirror⟩
theorem pow_pos2 (k : Nat) : (0 : Int) < 2 ^ k := by have := one_le_pow k; omega
theorem LRow.angle {f : Nat → Int × Int × Int} (h : LRow f) : ∀ (n j : Nat) (s b : Int), j + n = 20 → lgood n j s b = true → (f j).2.1 * 1099511627776 ≤ s * (f j).1 → (f 20).2.2 ≤ (f j).2.2 + b
  | 0, j, s, b, hj, hg, hs => by
    obtain rfl : j = 20 := by omega
    unfold lgood at hg
    simp only [decide_eq_true_eq] at hg
    omega
  | n + 1, j, s, b, hj, hg, hs => by
    obtain ⟨hx, hx2, hl⟩ := h j (by omega)
    have hz := lgood_zero j (by omega)
    rw [show 19 - j = n by omega] at hz
    unfold lgood at hg
    rcases hl with ⟨h0, ⟨f1, f2⟩, ⟨-, g⟩, e⟩ | ⟨h0, ⟨f1, f2⟩, ⟨-, g⟩, e⟩
    · by_cases hs0 : 0 ≤ s
      · rw [if_pos hs0] at hg
        simp only [Bool.and_eq_true, decide_eq_true_eq] at hg
        have i := h.angle n (j + 1) _ _ (by omega) hg.2.2 (slope_r (pow_pos2 j) hx hs hg.2.1 f1 f2 g)
        omega
      · have := Int.mul_le_mul_of_nonneg_right (show s ≤ -1 by omega) (show 0 ≤ (f j).1 by omega)
        omega
    · by_cases hs0 : 0 ≤ s
      · rw [if_pos hs0] at hg
        simp only [Bool.and_eq_true, decide_eq_true_eq] at hg
        have i := h.angle n (j + 1) _ _ (by omega) hz.2 (slope_l (pow_pos2 j) hx (by omega) hz.1 f1 f2 g)
        omega
      · rw [if_neg hs0] at hg
        simp only [Bool.and_eq_true, decide_eq_true_eq] at hg
        have i := h.angle n (j + 1) _ _ (by omega) hg.2 (slope_l (pow_pos2 j) hx hs hg.1 f1 f2 g)
        omega
theorem LRow.slope {f : Nat → Int × Int × Int} (h : LRow f) (h0 : (f 0).2.1 * 1099511627776 ≤ 1099511627776 * (f 0).1) : ∀ k : Nat, k ≤ 20 → (f k).2.1 * 1099511627776 ≤ lslope k * (f k).1
  | 0, _ => h0
  | k + 1, hk => by
    have ih := h.slope h0 k (by omega)
    obtain ⟨hx, hx2, hl⟩ := h k (by omega)
    obtain ⟨o1, o2⟩ := lslope_ok k (by omega)
    rw [lslope]
    rcases hl with ⟨-, ⟨f1, f2⟩, ⟨-, g⟩, -⟩ | ⟨h1, ⟨f1, f2⟩, ⟨-, g⟩, -⟩
    · exact Int.le_trans (slope_r (pow_pos2 k) hx ih o1 f1 f2 g) (Int.mul_le_mul_of_nonneg_right (Int.le_max_left _ _) (by omega))
    · exact Int.le_trans (slope_l (pow_pos2 k) hx (by omega) o2 f1 f2 g) (Int.mul_le_mul_of_nonneg_right (Int.le_max_right _ _) (by omega))

/-! ### Levelled vectors -/
theorem level_grows {X Y : Int} (h0 : 0 ≤ X) : ∀ k : Nat, X ≤ (level X Y k).1
  | 0 => Int.le_refl _
  | k + 1 => by
    have ih := level_grows h0 (Y := Y) k
    have f := floor_spec (level X Y k).2.1 (2 ^ k) (one_le_pow k)
    have hp := pow_pos2 k
    rw [level]
    split
    · have := Int.ediv_nonneg (show 0 ≤ (level X Y k).2.1 by omega) (show 0 ≤ (2 : Int) ^ k by omega)
      simp only; omega
    · have : (level X Y k).2.1 / 2 ^ k ≤ 0 := by
        have := Int.ediv_le_ediv hp (show (level X Y k).2.1 ≤ 0 by omega)
        rw [Int.zero_ediv] at this
        exact this
      simp only; omega
theorem level_row {X Y : Int} (h0 : 1073741824 ≤ X) : LRow (level X Y) := by
  intro k hk
  have g1 := level_grows (X := X) (Y := Y) (by omega) k
  have g2 := level_grows (X := X) (Y := Y) (by omega) (k + 1)
  refine ⟨by omega, by omega, ?_⟩
  have f1 := floor_spec (level X Y k).2.1 (2 ^ k) (one_le_pow k)
  have f2 := floor_spec (level X Y k).1 (2 ^ k) (one_le_pow k)
  rw [Int.add_mul, Int.one_mul, Int.mul_comm _ (2 ^ k)] at f1 f2
  unfold LStep
  rw [level, ← step_is k (by omega)]
  split
  · left
    simp only [Int.mul_add, Int.mul_sub]
    exact ⟨by omega, ⟨by omega, by omega⟩, ⟨by omega, by omega⟩, trivial⟩
  · right
    simp only [Int.mul_add, Int.mul_sub]
    exact ⟨by omega, ⟨by omega, by omega⟩, ⟨by omega, by omega⟩, trivial⟩
theorem level_law {X Y : Int} (h0 : 1073741824 ≤ X) (h1 : 0 ≤ Y) (h2 : Y ≤ X) :
    max (level X Y 20).2.1 (-(level X Y 20).2.1) ≤ (level X Y 20).1 / 100000 ∧ (-200 ≤ (level X Y 20).2.2 ∧ (level X Y 20).2.2 ≤ 8388808) ∧ X ≤ (level X Y 20).1 := by
  have r := level_row (Y := Y) h0
  have g := level_grows (X := X) (Y := Y) (by omega) 20
  have a1 := r.angle 20 0 _ _ rfl lgood_top (by show Y * _ ≤ _ * X; omega)
  have a2 := r.mirror.angle 20 0 _ _ rfl lgood_low (by show -Y * _ ≤ _ * X; omega)
  have s1 := r.slope (by show Y * _ ≤ _ * X; omega) 20 (by omega)
  have s2 := r.mirror.slope (by show -Y * _ ≤ _ * X; omega) 20 (by omega)
  have c := Int.mul_le_mul_of_nonneg_right lslope_end (show 0 ≤ (level X Y 20).1 by omega)
  simp only at a2 s2
  have e : (level X Y 0).2.2 = 0 := rfl
  omega

end Fx
