/-
  Plain laws on the tables of angles. No program in sight.
-/
import Derived.Test.YtmjmafgjejphbaaMathT
namespace Fx

theorem pi_is : piSpan = (843314816, 843314944) := by decide +kernel
def stepTab : List Int := [8388608, 4952084, 2616545, 1328199, 666677, 333664, 166872, 83441, 41721, 20861, 10430, 5215, 2608, 1304, 652, 326, 163, 82, 41, 20, 10]
theorem step_is (k : Nat) (hk : k ≤ 20) : stepA k = stepTab.getD k 0 := by
  have h : (List.range 21).all (fun k => stepA k == stepTab.getD k 0) = true := by decide +kernel
  rw [List.all_eq_true] at h
  simpa using h k (List.mem_range.2 (by omega))
theorem step_size (k : Nat) (hk : k ≤ 20) : 10 ≤ stepA k ∧ stepA k ≤ 8388608 := by
  have h : (List.range 21).all (fun k => decide (10 ≤ stepTab.getD k 0) && decide (stepTab.getD k 0 ≤ 8388608)) = true := by decide +kernel
  rw [List.all_eq_true] at h
  rw [step_is k hk]
  simpa using h k (List.mem_range.2 (by omega))
def growTab : List (Int × Int) := [(268435456, 268435456), (536870912, 536870912), (671088640, 671088640), (713031680, 713031680), (724172800, 724172800), (727001600, 727001600), (727711562, 727711563), (727889225, 727889227), (727933651, 727933654), (727944758, 727944762), (727947534, 727947539), (727948228, 727948234), (727948401, 727948408), (727948444, 727948452), (727948454, 727948463), (727948456, 727948466), (727948456, 727948469), (727948456, 727948472), (727948456, 727948475), (727948456, 727948478), (727948456, 727948481)]
theorem grow_is (k : Nat) (hk : k ≤ 20) : growP k = growTab.getD k (0, 0) := by
  have h : (List.range 21).all (fun k => growP k == growTab.getD k (0, 0)) = true := by decide +kernel
  rw [List.all_eq_true] at h
  simpa using h k (List.mem_range.2 (by omega))
def growSTab : List (Int × Int) := [(268435456, 268435456), (379625062, 379625063), (424433722, 424433723), (437496267, 437496268), (440900959, 440900960), (441761254, 441761255), (441976905, 441976906), (442030854, 442030855), (442044343, 442044345), (442047715, 442047718), (442048558, 442048561), (442048769, 442048772), (442048821, 442048825), (442048834, 442048838), (442048838, 442048841), (442048838, 442048842), (442048838, 442048843), (442048838, 442048844), (442048838, 442048845), (442048838, 442048846), (442048838, 442048847)]
theorem growS_is (k : Nat) (hk : k ≤ 20) : growS k = growSTab.getD k (0, 0) := by
  have h : (List.range 21).all (fun k => growS k == growSTab.getD k (0, 0)) = true := by decide +kernel
  rw [List.all_eq_true] at h
  simpa using h k (List.mem_range.2 (by omega))
def startTab : List Int := [268435456, 189812530, 169773489, 164704477, 163432608, 163114336, 163034749, 163014851, 163009876, 163008632, 163008321, 163008243, 163008224, 163008219, 163008218, 163008218, 163008217, 163008217, 163008216, 163008216, 163008216]
theorem start_is (k : Nat) (hk : k ≤ 20) : startS k = startTab.getD k 0 := by
  have h : (List.range 21).all (fun k => startS k == startTab.getD k 0) = true := by decide +kernel
  rw [List.all_eq_true] at h
  simpa using h k (List.mem_range.2 (by omega))

/-! ### Arc tangents of small numbers, by reckoning; of great ones, by the one term -/
def arcOk (k : Int) : Bool :=
  decide (svalid (arc k).1 (arc k).2) && (decide ((arc k).1 ≤ 268435456 / k + 1) && (decide (268435456 / k - 268435456 / (3 * k * k * k) - 1 ≤ (arc k).2) && (decide ((arc k).2 - (arc k).1 ≤ 40) && (decide ((arc (k + 1)).1 ≤ (arc k).2) && decide (0 < (arc k).1)))))
theorem arc_small (k : Int) (h0 : 2 ≤ k) (h1 : k ≤ 500) : arcOk k = true := by
  have h : (List.range 499).all (fun i => arcOk ((i : Int) + 2)) = true := by decide +kernel
  rw [List.all_eq_true] at h
  have := h (k - 2).toNat (List.mem_range.2 (by omega))
  rwa [show (((k - 2).toNat : Nat) : Int) + 2 = k by omega] at this
theorem arc_great (k : Int) (h0 : 450 ≤ k) (h1 : k ≤ 65537) : arc k = (268435456 / k - 1, -(-268435456 / k) + 1) := by
  have hk : 450 * 450 ≤ k * k := Int.mul_le_mul h0 h0 (by omega) (by omega)
  have hk2 : 450 * (450 * 450) ≤ k * (k * k) := Int.mul_le_mul h0 hk (by omega) (by omega)
  unfold arc
  rw [arcGo, if_pos (by omega), if_pos (by decide), arcGo, if_neg (by omega)]
  have e : (2 * ((0 : Nat) : Int) + 1) * k = k := by omega
  rw [e]
  refine Prod.ext ?_ ?_
  · show -1 + _ = _; omega
  · show 1 + _ = _; omega
theorem arc_law (k : Int) (h0 : 2 ≤ k) (h1 : k ≤ 65536) :
    svalid (arc k).1 (arc k).2 ∧ (arc k).1 ≤ 268435456 / k + 1 ∧ 268435456 / k - 268435456 / (3 * k * k * k) - 1 ≤ (arc k).2 ∧ (arc k).2 - (arc k).1 ≤ 40 ∧ (arc (k + 1)).1 ≤ (arc k).2 ∧ 0 < (arc k).1 := by
  by_cases hs : k ≤ 500
  · have h := arc_small k h0 hs
    unfold arcOk at h
    simpa only [Bool.and_eq_true, decide_eq_true_eq] using h
  · have f1 := floor_spec 268435456 k (by omega)
    have f2 := ceil_spec 268435456 k (by omega)
    have f3 := floor_spec 268435456 (k + 1) (by omega)
    have p : 0 ≤ 3 * k * k * k := Int.mul_nonneg (Int.mul_nonneg (by omega) (by omega)) (by omega)
    have q : 0 ≤ 268435456 / (3 * k * k * k) := Int.ediv_nonneg (by omega) p
    have a1 : 4096 ≤ 268435456 / k := (le_floor_iff _ _ _ (by omega)).2 (by omega)
    have a2 : 268435456 / k < 536871 := Int.ediv_lt_of_lt_mul (by omega) (by omega)
    have a3 : 268435456 / k ≤ -(-268435456 / k) := floor_le_ceil _ _ (by omega)
    have a4 : -(-268435456 / k) ≤ 268435456 / k + 1 := (le_ceil_iff _ _ _ (by omega)).2 (by omega)
    have a6 : 0 ≤ 268435456 / (k + 1) := Int.ediv_nonneg (by omega) (by omega)
    have a5 : 268435456 / (k + 1) ≤ 268435456 / k := by
      refine (le_floor_iff _ _ _ (by omega)).2 ?_
      have := f3.1
      rw [Int.mul_add] at this
      omega
    rw [arc_great k (by omega) (by omega), arc_great (k + 1) (by omega) (by omega)]
    unfold svalid
    refine ⟨by omega, by omega, ?_, ?_, ?_, ?_⟩
    · show _ ≤ -(-268435456 / k) + 1; omega
    · show -(-268435456 / k) + 1 - (268435456 / k - 1) ≤ 40; omega
    · show 268435456 / (k + 1) - 1 ≤ -(-268435456 / k) + 1; omega
    · show 0 < 268435456 / k - 1; omega

end Fx
