/-
  The walks of the functions on whole numbers alone: each returns what the plain function of MathA says, and leaves the world alone.
-/
import Derived.Test.YtkogpcabemklhaaBase
namespace Go.Proofs.Ytkogpcabemklhaa
open Go.RowKit

set_option maxHeartbeats 400000 in
theorem within_any (a b : Int) (w : World) (h0 : 0 ≤ b) (h1 : b ≤ 9223372036854775807) :
    Calls Try.prog 44 #[.int .i64 a, .int .i64 b] w fun e w' => e = .returned (.bool (decide (-b ≤ a ∧ a ≤ b))) ∧ w = w' := by
  go_enter Try.func44, Try.ntmps44
  go_wp2
  all_goals (go_ret; exact ⟨ret_b (by simp; try omega), rfl⟩)

theorem within_yes (a b : Int) (w : World) (h : 0 ≤ b ∧ b ≤ 9223372036854775807 ∧ -b ≤ a ∧ a ≤ b) :
    Calls Try.prog 44 #[.int .i64 a, .int .i64 b] w fun e w' => e = .returned (.bool true) ∧ w = w' :=
  (within_any a b w h.1 h.2.1).mono fun _ _ ⟨h1, h2⟩ => ⟨by rw [h1, decide_eq_true h.2.2], h2⟩
theorem within_no (a b : Int) (w : World) (h : 0 ≤ b ∧ b ≤ 9223372036854775807 ∧ (a < -b ∨ b < a)) :
    Calls Try.prog 44 #[.int .i64 a, .int .i64 b] w fun e w' => e = .returned (.bool false) ∧ w = w' :=
  (within_any a b w h.1 h.2.1).mono fun _ _ ⟨h1, h2⟩ => ⟨by rw [h1, decide_eq_false (by omega)], h2⟩

set_option maxHeartbeats 400000 in
theorem workable_any (a : Int) (w : World) :
    Calls Try.prog 54 #[.int .i64 a] w fun e w' => e = .returned (.bool (decide (-1152921504606846976 ≤ a ∧ a ≤ 1152921504606846976))) ∧ w = w' := by
  go_enter Try.func54, Try.ntmps54
  go_wp2_with (go_at_call 44; refine (within_any _ _ _ (by omega) (by omega)).mono ?_; rintro e w' ⟨rfl, rfl⟩)
  go_ret; exact ⟨ret_b (by simp), rfl⟩

theorem workable_yes (a : Int) (w : World) (h : -1152921504606846976 ≤ a ∧ a ≤ 1152921504606846976) :
    Calls Try.prog 54 #[.int .i64 a] w fun e w' => e = .returned (.bool true) ∧ w = w' :=
  (workable_any a w).mono fun _ _ ⟨h1, h2⟩ => ⟨by rw [h1, decide_eq_true h], h2⟩
theorem workable_no (a : Int) (w : World) (h : a < -1152921504606846976 ∨ 1152921504606846976 < a) :
    Calls Try.prog 54 #[.int .i64 a] w fun e w' => e = .returned (.bool false) ∧ w = w' :=
  (workable_any a w).mono fun _ _ ⟨h1, h2⟩ => ⟨by rw [h1, decide_eq_false (by omega)], h2⟩

set_option maxHeartbeats 400000 in
theorem l1In_any (a b c : Int) (w : World) :
    Calls Try.prog 42 #[.int .i64 a, .int .i64 b, .int .i64 c] w fun e w' => e = .returned (.bool (decide (b ≤ a ∧ a ≤ c))) ∧ w = w' := by
  go_enter Try.func42, Try.ntmps42
  go_wp2
  all_goals (go_ret; exact ⟨ret_b (by simp; try omega), rfl⟩)

theorem l1In_yes (a b c : Int) (w : World) (h : b ≤ a ∧ a ≤ c) :
    Calls Try.prog 42 #[.int .i64 a, .int .i64 b, .int .i64 c] w fun e w' => e = .returned (.bool true) ∧ w = w' :=
  (l1In_any a b c w).mono fun _ _ ⟨h1, h2⟩ => ⟨by rw [h1, decide_eq_true h], h2⟩
theorem l1In_no (a b c : Int) (w : World) (h : a < b ∨ c < a) :
    Calls Try.prog 42 #[.int .i64 a, .int .i64 b, .int .i64 c] w fun e w' => e = .returned (.bool false) ∧ w = w' :=
  (l1In_any a b c w).mono fun _ _ ⟨h1, h2⟩ => ⟨by rw [h1, decide_eq_false (by omega)], h2⟩

set_option maxHeartbeats 400000 in
theorem floorDiv_any (a b : Int) (w : World) :
    Calls Try.prog 48 #[.int .i64 a, .int .i64 b] w fun e w' => e = .returned (.int .i64 (Fx.floorDiv a b)) ∧ w = w' := by
  go_enter Try.func48, Try.ntmps48
  go_wp2_with (go_at_call 54; refine (workable_any _ _).mono ?_; rintro e w' ⟨rfl, rfl⟩)
  all_goals go_ret
  · exact ⟨ret_i (by rw [Fx.floorDiv, if_neg (by unfold Fx.Work; omega)]), rfl⟩
  · refine ⟨ret_i ?_, rfl⟩
    rw [Fx.tdiv_neg_rem a b (by omega) (by assumption), Fx.floorDiv_in a b (by unfold Fx.Work; omega) (by omega) (by omega)]
    exact IntWalk.wrap64_in _ (by have := Fx.ediv_bounds a b (by omega) 1152921504606846976 (by omega) (by omega); omega)
  · refine ⟨ret_i ?_, rfl⟩
    rw [Fx.tdiv_pos_rem a b (by omega) (by assumption), Fx.floorDiv_in a b (by unfold Fx.Work; omega) (by omega) (by omega)]
  · exact ⟨ret_i (by rw [Fx.floorDiv, if_neg (by unfold Fx.Work; omega)]), rfl⟩
  · exact ⟨ret_i (by rw [Fx.floorDiv, if_neg (by unfold Fx.Work; omega)]), rfl⟩

set_option maxHeartbeats 400000 in
theorem ceilDiv_any (a b : Int) (w : World) (h : -1152921504606846976 ≤ a ∧ a ≤ 1152921504606846976) :
    Calls Try.prog 49 #[.int .i64 a, .int .i64 b] w fun e w' => e = .returned (.int .i64 (-Fx.floorDiv (-a) b)) ∧ w = w' := by
  have hb := Fx.floorDiv_bounds (-a) b
  go_enter Try.func49, Try.ntmps49
  go_wp2_with (go_at_call 48; refine (floorDiv_any _ _ _).mono ?_; rintro e w' ⟨rfl, rfl⟩)
  go_ret
  exact ⟨rfl, rfl⟩

set_option maxHeartbeats 400000 in
theorem l1Floor_any (a b : Int) (w : World) (ha : -4611686018427387904 ≤ a ∧ a ≤ 4611686018427387904) (hb : 1 ≤ b) :
    Calls Try.prog 46 #[.int .i64 a, .int .i64 b] w fun e w' => e = .returned (.int .i64 (a / b)) ∧ w = w' := by
  have hq := Fx.ediv_bounds a b (by omega) 4611686018427387904 (by omega) (by omega)
  go_enter Try.func46, Try.ntmps46
  go_wp2
  all_goals go_ret
  all_goals refine ⟨ret_i ?_, rfl⟩
  · rw [Fx.tdiv_neg_rem a b (by omega) (by assumption)]
    exact IntWalk.wrap64_in _ (by omega)
  · exact Fx.tdiv_pos_rem a b (by omega) (by assumption)

set_option maxHeartbeats 400000 in
theorem l7Ceil_any (a b : Int) (w : World) (ha : -4611686018427387904 ≤ a ∧ a ≤ 4611686018427387904) (hb : 1 ≤ b) :
    Calls Try.prog 47 #[.int .i64 a, .int .i64 b] w fun e w' => e = .returned (.int .i64 (-((-a) / b))) ∧ w = w' := by
  have hq := Fx.ediv_bounds (-a) b (by omega) 4611686018427387904 (by omega) (by omega)
  go_enter Try.func47, Try.ntmps47
  go_wp2_with (go_at_call 46; refine (l1Floor_any _ _ _ (by omega) (by omega)).mono ?_; rintro e w' ⟨rfl, rfl⟩)
  go_ret
  exact ⟨rfl, rfl⟩

set_option maxHeartbeats 400000 in
set_option maxRecDepth 100000 in
theorem len64_5 (w : World) : Calls Try.prog 53 #[.int .u64 5] w fun e w' => e = .returned (.int .i64 3) ∧ w = w' := by
  go_enter Try.func53, Try.ntmps53
  go_wp2
  go_ret
  exact ⟨ret_i (by decide +kernel), rfl⟩

set_option maxHeartbeats 400000 in
theorem bitLength_5 (w : World) : Calls Try.prog 43 #[.int .i64 5] w fun e w' => e = .returned (.int .i64 3) ∧ w = w' := by
  go_enter Try.func43, Try.ntmps43
  go_wp2_with (go_at_call 53; refine (len64_5 _).mono ?_; rintro e w' ⟨rfl, rfl⟩)
  go_ret
  exact ⟨rfl, rfl⟩

set_option maxHeartbeats 400000 in
theorem alive_any (w : World) : Calls Try.prog 17 #[] w fun e w' => e = .returned (.bool true) ∧ w = w' := by
  go_enter Try.func17, Try.ntmps17
  go_wp2_with (go_at_call 43; refine (bitLength_5 _).mono ?_; rintro e w' ⟨rfl, rfl⟩)
  go_ret
  exact ⟨rfl, rfl⟩

