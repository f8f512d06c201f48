/-
  The walks of the functions on whole numbers alone: each returns what the plain function of MathA says, and leaves the world alone.
-/
import Derived.Test.YtmjmafgjejphbaaBase
namespace Go.Proofs.Ytmjmafgjejphbaa
open Go.RowKit

set_option maxHeartbeats 400000 in
theorem within_any (a b : Int) (w : World) (h0 : 0 ≤ b) (h1 : b ≤ 9223372036854775807) :
    Calls Try.prog 88 #[.int .i64 a, .int .i64 b] w fun e w' => e = .returned (.bool (decide (-b ≤ a ∧ a ≤ b))) ∧ w = w' := by
  go_enter Try.func88, Try.ntmps88
  go_wp2
  all_goals (go_ret; exact ⟨ret_b (by simp; try omega), rfl⟩)

theorem within_yes (a b : Int) (w : World) (h : 0 ≤ b ∧ b ≤ 9223372036854775807 ∧ -b ≤ a ∧ a ≤ b) :
    Calls Try.prog 88 #[.int .i64 a, .int .i64 b] w fun e w' => e = .returned (.bool true) ∧ w = w' :=
  (within_any a b w h.1 h.2.1).mono fun _ _ ⟨h1, h2⟩ => ⟨by rw [h1, decide_eq_true h.2.2], h2⟩
theorem within_no (a b : Int) (w : World) (h : 0 ≤ b ∧ b ≤ 9223372036854775807 ∧ (a < -b ∨ b < a)) :
    Calls Try.prog 88 #[.int .i64 a, .int .i64 b] w fun e w' => e = .returned (.bool false) ∧ w = w' :=
  (within_any a b w h.1 h.2.1).mono fun _ _ ⟨h1, h2⟩ => ⟨by rw [h1, decide_eq_false (by omega)], h2⟩

set_option maxHeartbeats 400000 in
theorem workable_any (a : Int) (w : World) :
    Calls Try.prog 74 #[.int .i64 a] w fun e w' => e = .returned (.bool (decide (-1152921504606846976 ≤ a ∧ a ≤ 1152921504606846976))) ∧ w = w' := by
  go_enter Try.func74, Try.ntmps74
  go_wp2_with (go_at_call 88; refine (within_any _ _ _ (by omega) (by omega)).mono ?_; rintro e w' ⟨rfl, rfl⟩)
  go_ret; exact ⟨ret_b (by simp), rfl⟩

theorem workable_yes (a : Int) (w : World) (h : -1152921504606846976 ≤ a ∧ a ≤ 1152921504606846976) :
    Calls Try.prog 74 #[.int .i64 a] w fun e w' => e = .returned (.bool true) ∧ w = w' :=
  (workable_any a w).mono fun _ _ ⟨h1, h2⟩ => ⟨by rw [h1, decide_eq_true h], h2⟩
theorem workable_no (a : Int) (w : World) (h : a < -1152921504606846976 ∨ 1152921504606846976 < a) :
    Calls Try.prog 74 #[.int .i64 a] w fun e w' => e = .returned (.bool false) ∧ w = w' :=
  (workable_any a w).mono fun _ _ ⟨h1, h2⟩ => ⟨by rw [h1, decide_eq_false (by omega)], h2⟩

set_option maxHeartbeats 400000 in
theorem l1In_any (a b c : Int) (w : World) :
    Calls Try.prog 78 #[.int .i64 a, .int .i64 b, .int .i64 c] w fun e w' => e = .returned (.bool (decide (b ≤ a ∧ a ≤ c))) ∧ w = w' := by
  go_enter Try.func78, Try.ntmps78
  go_wp2
  all_goals (go_ret; exact ⟨ret_b (by simp; try omega), rfl⟩)

theorem l1In_yes (a b c : Int) (w : World) (h : b ≤ a ∧ a ≤ c) :
    Calls Try.prog 78 #[.int .i64 a, .int .i64 b, .int .i64 c] w fun e w' => e = .returned (.bool true) ∧ w = w' :=
  (l1In_any a b c w).mono fun _ _ ⟨h1, h2⟩ => ⟨by rw [h1, decide_eq_true h], h2⟩
theorem l1In_no (a b c : Int) (w : World) (h : a < b ∨ c < a) :
    Calls Try.prog 78 #[.int .i64 a, .int .i64 b, .int .i64 c] w fun e w' => e = .returned (.bool false) ∧ w = w' :=
  (l1In_any a b c w).mono fun _ _ ⟨h1, h2⟩ => ⟨by rw [h1, decide_eq_false (by omega)], h2⟩

set_option maxHeartbeats 400000 in
theorem work_any (a : Int) (w : World) :
    Calls Try.prog 27 #[.int .i64 a] w fun e w' => e = .returned (.bool (decide (-1152921504606846976 ≤ a ∧ a ≤ 1152921504606846976))) ∧ w = w' := by
  go_enter Try.func27, Try.ntmps27
  go_wp2
  all_goals (go_ret; exact ⟨ret_b (by simp; try omega), rfl⟩)

theorem work_yes (a : Int) (w : World) (h : -1152921504606846976 ≤ a ∧ a ≤ 1152921504606846976) :
    Calls Try.prog 27 #[.int .i64 a] w fun e w' => e = .returned (.bool true) ∧ w = w' :=
  (work_any a w).mono fun _ _ ⟨h1, h2⟩ => ⟨by rw [h1, decide_eq_true h], h2⟩
theorem work_no (a : Int) (w : World) (h : a < -1152921504606846976 ∨ 1152921504606846976 < a) :
    Calls Try.prog 27 #[.int .i64 a] w fun e w' => e = .returned (.bool false) ∧ w = w' :=
  (work_any a w).mono fun _ _ ⟨h1, h2⟩ => ⟨by rw [h1, decide_eq_false (by omega)], h2⟩

set_option maxHeartbeats 400000 in
theorem floorDiv_any (a b : Int) (w : World) :
    Calls Try.prog 85 #[.int .i64 a, .int .i64 b] w fun e w' => e = .returned (.int .i64 (Fx.floorDiv a b)) ∧ w = w' := by
  go_enter Try.func85, Try.ntmps85
  go_wp2_with (go_at_call 74; refine (workable_any _ _).mono ?_; rintro e w' ⟨rfl, rfl⟩)
  all_goals go_ret
  · exact ⟨ret_i (by rw [Fx.floorDiv, if_neg (by unfold Fx.Work; omega)]), rfl⟩
  · refine ⟨ret_i ?_, rfl⟩
    rw [Fx.tdiv_neg_rem a b (by omega) (by assumption), Fx.floorDiv_in a b (by unfold Fx.Work; omega) (by omega) (by omega)]
    exact IntWalk.wrap64_in _ (by have := Fx.ediv_bounds a b (by omega) 1152921504606846976 (by omega) (by omega); omega)
  · refine ⟨ret_i ?_, rfl⟩
    rw [Fx.tdiv_pos_rem a b (by omega) (by assumption), Fx.floorDiv_in a b (by unfold Fx.Work; omega) (by omega) (by omega)]
  · exact ⟨ret_i (by rw [Fx.floorDiv, if_neg (by unfold Fx.Work; omega)]), rfl⟩
  · exact ⟨ret_i (by rw [Fx.floorDiv, if_neg (by unfold Fx.Work; omega)]), rfl⟩

set_option maxHeartbeats 400000 in
theorem ceilDiv_any (a b : Int) (w : World) (h : -1152921504606846976 ≤ a ∧ a ≤ 1152921504606846976) :
    Calls Try.prog 86 #[.int .i64 a, .int .i64 b] w fun e w' => e = .returned (.int .i64 (-Fx.floorDiv (-a) b)) ∧ w = w' := by
  have hb := Fx.floorDiv_bounds (-a) b
  go_enter Try.func86, Try.ntmps86
  go_wp2_with (go_at_call 85; refine (floorDiv_any _ _ _).mono ?_; rintro e w' ⟨rfl, rfl⟩)
  go_ret
  exact ⟨rfl, rfl⟩

set_option maxHeartbeats 400000 in
theorem roundDiv_any (a b : Int) (w : World) :
    Calls Try.prog 97 #[.int .i64 a, .int .i64 b] w fun e w' => e = .returned (.int .i64 (Fx.roundDiv a b)) ∧ w = w' := by
  by_cases hv : (-1152921504606846976 ≤ a ∧ a ≤ 1152921504606846976) ∧ 1 ≤ b ∧ b ≤ 1152921504606846976
  · have hq := Fx.ediv_bounds a b (by omega) 1152921504606846976 (by omega) (by omega)
    have e := Int.emod_add_mul_ediv a b
    rw [Int.mul_comm] at e
    have l0 := Int.emod_nonneg a (show b ≠ 0 by omega)
    have l1 := Int.emod_lt_of_pos a (show 0 < b by omega)
    have hr : Fx.roundDiv a b = if b < 2 * (a - a / b * b) ∨ (2 * (a - a / b * b) = b ∧ bits .and .i64 (a / b) 1 = 1) then a / b + 1 else a / b := by
      rw [Fx.roundDiv_in a b (by unfold Fx.Work; omega) (by omega) (by omega), and_one]
      unfold Fx.rnd
      have : a % b = a - a / b * b := by omega
      rw [this]
    have HR := Lib.hid hr
    have hf := Fx.floorDiv_in a b (by unfold Fx.Work; omega) (by omega) (by omega)
    have m0 : 0 ≤ a - a / b * b := by omega
    have m1 : a - a / b * b < b := by omega
    obtain ⟨⟨a0, a1⟩, b0, b1⟩ := hv
    clear e l0 l1 hr
    go_enter Try.func97, Try.ntmps97
    go_wp2_with (first | (go_at_call 74; refine (workable_any _ _).mono ?_; rintro e w' ⟨rfl, rfl⟩) | (go_at_call 85; refine (floorDiv_any _ _ _).mono ?_; rintro e w' ⟨rfl, rfl⟩))
    all_goals go_ret
    all_goals refine ⟨ret_i ?_, rfl⟩
    all_goals rw [HR.out]
    · rw [if_pos (Or.inr ⟨by omega, eq_of_beq ‹_›⟩)]
    · rw [if_neg (by rintro (h | ⟨-, h⟩); omega; simp_all)]
    · rw [if_neg (by omega)]
    · rw [if_pos (by omega)]
  · have hf : 0 = Fx.roundDiv a b := by rw [Fx.roundDiv, if_neg (by unfold Fx.Work; omega)]
    have HF := Lib.hid hf
    clear hf
    go_enter Try.func97, Try.ntmps97
    go_wp2_with (first | (go_at_call 74; refine (workable_any _ _).mono ?_; rintro e w' ⟨rfl, rfl⟩) | (go_at_call 85; refine (floorDiv_any _ _ _).mono ?_; rintro e w' ⟨rfl, rfl⟩))
    all_goals go_ret
    all_goals exact ⟨ret_i HF.out, rfl⟩

set_option maxHeartbeats 400000 in
theorem floorShift_any (n k : Int) (w : World) :
    Calls Try.prog 111 #[.int .i64 n, .int .i64 k] w fun e w' => e = .returned (.int .i64 (Fx.floorShift n k)) ∧ w = w' := by
  go_enter Try.func111, Try.ntmps111
  go_wp2_with (go_at_call 74; refine (workable_any _ _).mono ?_; rintro e w' ⟨rfl, rfl⟩)
  all_goals go_ret
  all_goals refine ⟨ret_i ?_, rfl⟩
  all_goals first | rw [Fx.floorShift, if_neg (by unfold Fx.Work; omega)] | rw [Fx.floorShift, if_pos (by unfold Fx.Work; omega)]

set_option maxHeartbeats 400000 in
theorem roundShift_any (n k : Int) (w : World) :
    Calls Try.prog 104 #[.int .i64 n, .int .i64 k] w fun e w' => e = .returned (.int .i64 (Fx.roundShift n k)) ∧ w = w' := by
  by_cases hv : (-1152921504606846976 ≤ n ∧ n ≤ 1152921504606846976) ∧ 0 ≤ k ∧ k ≤ 60
  · have hp := Fx.two_pow_le k.toNat (by omega)
    have hr : Fx.roundShift n k = if 2 ^ k.toNat < 2 * (n % 2 ^ k.toNat) ∨ (2 * (n % 2 ^ k.toNat) = 2 ^ k.toNat ∧ bits .and .i64 (n / 2 ^ k.toNat) 1 = 1) then n / 2 ^ k.toNat + 1 else n / 2 ^ k.toNat := by
      rw [Fx.roundShift_in n k (by unfold Fx.Work; omega) (by omega) (by omega), and_one]
      rfl
    have HR := Lib.hid hr
    have hm := and_mask n k.toNat (by omega)
    have hq := Fx.ediv_bounds n (2 ^ k.toNat) (by omega) 1152921504606846976 (by omega) (by omega)
    have l0 := Int.emod_nonneg n (show (2 : Int) ^ k.toNat ≠ 0 by omega)
    have l1 := Int.emod_lt_of_pos n (show (0 : Int) < 2 ^ k.toNat by omega)
    obtain ⟨⟨a0, a1⟩, b0, b1⟩ := hv
    clear hr
    go_enter Try.func104, Try.ntmps104
    go_wp2_with (go_at_call 74; refine (workable_any _ _).mono ?_; rintro e w' ⟨rfl, rfl⟩)
    all_goals go_ret
    all_goals refine ⟨ret_i ?_, rfl⟩
    all_goals rw [HR.out]
    · rw [if_pos (Or.inr ⟨by omega, eq_of_beq ‹_›⟩)]
    · rw [if_neg (by rintro (h | ⟨-, h⟩); omega; simp_all)]
    · rw [if_neg (by omega)]
    · rw [if_pos (by omega)]
  · have hf : 0 = Fx.roundShift n k := by rw [Fx.roundShift, if_neg (by unfold Fx.Work; omega)]
    have HF := Lib.hid hf
    clear hf
    go_enter Try.func104, Try.ntmps104
    go_wp2_with (go_at_call 74; refine (workable_any _ _).mono ?_; rintro e w' ⟨rfl, rfl⟩)
    all_goals go_ret
    all_goals exact ⟨ret_i HF.out, rfl⟩

set_option maxHeartbeats 400000 in
theorem l1Floor_any (a b : Int) (w : World) (ha : -4611686018427387904 ≤ a ∧ a ≤ 4611686018427387904) (hb : 1 ≤ b) :
    Calls Try.prog 106 #[.int .i64 a, .int .i64 b] w fun e w' => e = .returned (.int .i64 (a / b)) ∧ w = w' := by
  have hq := Fx.ediv_bounds a b (by omega) 4611686018427387904 (by omega) (by omega)
  go_enter Try.func106, Try.ntmps106
  go_wp2
  all_goals go_ret
  all_goals refine ⟨ret_i ?_, rfl⟩
  · rw [Fx.tdiv_neg_rem a b (by omega) (by assumption)]
    exact IntWalk.wrap64_in _ (by omega)
  · exact Fx.tdiv_pos_rem a b (by omega) (by assumption)

set_option maxHeartbeats 400000 in
theorem l1Round_any (a b : Int) (w : World) (ha : -2305843009213693952 ≤ a ∧ a ≤ 2305843009213693952) (hb : 1 ≤ b ∧ b ≤ 2305843009213693952) :
    Calls Try.prog 94 #[.int .i64 a, .int .i64 b] w fun e w' => e = .returned (.int .i64 (Fx.rnd a b)) ∧ w = w' := by
  have hq := Fx.ediv_bounds a b (by omega) 2305843009213693952 (by omega) (by omega)
  have e := Int.emod_add_mul_ediv a b
  rw [Int.mul_comm] at e
  have l0 := Int.emod_nonneg a (show b ≠ 0 by omega)
  have l1 := Int.emod_lt_of_pos a (show 0 < b by omega)
  have hr : Fx.rnd a b = if b < 2 * (a - a / b * b) ∨ (2 * (a - a / b * b) = b ∧ (a / b) % 2 = 1) then a / b + 1 else a / b := by
    unfold Fx.rnd
    have : a % b = a - a / b * b := by omega
    rw [this]
  have HR := Lib.hid hr
  have m0 : 0 ≤ a - a / b * b := by omega
  have m1 : a - a / b * b < b := by omega
  obtain ⟨a0, a1⟩ := ha
  obtain ⟨b0, b1⟩ := hb
  clear e l0 l1 hr
  go_enter Try.func94, Try.ntmps94
  go_wp2_with (go_at_call 106; refine (l1Floor_any _ _ _ (by omega) (by omega)).mono ?_; rintro e w' ⟨rfl, rfl⟩)
  all_goals go_ret
  all_goals refine ⟨ret_i ?_, rfl⟩
  all_goals rw [HR.out]
  · rw [if_pos (Or.inr ⟨by omega, by have h := ‹((a / b).tmod 2 != 0) = true›; have := Fx.tmod_zero (a / b) 2; simp at h; omega⟩)]
  · rw [if_neg (by have h := ‹((a / b).tmod 2 != 0) = false›; have := Fx.tmod_zero (a / b) 2; simp at h; omega)]
  · rw [if_neg (by omega)]
  · rw [if_pos (by omega)]

set_option maxHeartbeats 400000 in
theorem l7Ceil_any (a b : Int) (w : World) (ha : -4611686018427387904 ≤ a ∧ a ≤ 4611686018427387904) (hb : 1 ≤ b) :
    Calls Try.prog 87 #[.int .i64 a, .int .i64 b] w fun e w' => e = .returned (.int .i64 (-((-a) / b))) ∧ w = w' := by
  have hq := Fx.ediv_bounds (-a) b (by omega) 4611686018427387904 (by omega) (by omega)
  go_enter Try.func87, Try.ntmps87
  go_wp2_with (go_at_call 106; refine (l1Floor_any _ _ _ (by omega) (by omega)).mono ?_; rintro e w' ⟨rfl, rfl⟩)
  go_ret
  exact ⟨rfl, rfl⟩

set_option maxHeartbeats 400000 in
set_option maxRecDepth 100000 in
theorem len64_5 (w : World) : Calls Try.prog 105 #[.int .u64 5] w fun e w' => e = .returned (.int .i64 3) ∧ w = w' := by
  go_enter Try.func105, Try.ntmps105
  go_wp2
  go_ret
  exact ⟨ret_i (by decide +kernel), rfl⟩

set_option maxHeartbeats 400000 in
theorem bitLength_5 (w : World) : Calls Try.prog 83 #[.int .i64 5] w fun e w' => e = .returned (.int .i64 3) ∧ w = w' := by
  go_enter Try.func83, Try.ntmps83
  go_wp2_with (go_at_call 105; refine (len64_5 _).mono ?_; rintro e w' ⟨rfl, rfl⟩)
  go_ret
  exact ⟨rfl, rfl⟩

set_option maxHeartbeats 400000 in
theorem alive_any (w : World) : Calls Try.prog 28 #[] w fun e w' => e = .returned (.bool true) ∧ w = w' := by
  go_enter Try.func28, Try.ntmps28
  go_wp2_with (go_at_call 83; refine (bitLength_5 _).mono ?_; rintro e w' ⟨rfl, rfl⟩)
  go_ret
  exact ⟨rfl, rfl⟩

set_option maxHeartbeats 400000 in
theorem wrapAngle_any (a : Int) (w : World) :
    Calls Try.prog 29 #[.int .i64 a] w fun e w' => e = .returned (.int .i64 (Fx.wrapAngle a)) ∧ w = w' := by
  have hm : bits .and .i64 a 65535 = a % 65536 := and_mask a 16 (by decide)
  by_cases hA : -1152921504606846976 ≤ a ∧ a ≤ 1152921504606846976
  all_goals
    go_enter Try.func29, Try.ntmps29
    go_wp2_with (first | (go_at_call 74; refine (workable_yes _ _ ?_).mono ?_; (omega); rintro e w' ⟨rfl, rfl⟩) | (go_at_call 74; refine (workable_no _ _ ?_).mono ?_; (omega); rintro e w' ⟨rfl, rfl⟩))
    go_ret
    refine ⟨ret_i ?_, rfl⟩
  · rw [Fx.wrapAngle, if_pos (by unfold Fx.Work; omega)]
  · rw [Fx.wrapAngle, if_neg (by unfold Fx.Work; omega)]

set_option maxHeartbeats 400000 in
theorem l12Wrap_any (a : Int) (w : World) :
    Calls Try.prog 79 #[.int .i64 a] w fun e w' => e = .returned (.int .i64 (a % 65536)) ∧ w = w' := by
  have l0 := Int.lt_tmod_of_pos a (show (0 : Int) < 65536 by omega)
  have l1 := Int.tmod_lt_of_pos a (show (0 : Int) < 65536 by omega)
  have e := Int.tmod_add_mul_tdiv a 65536
  have E := Lib.hid e
  clear e
  go_enter Try.func79, Try.ntmps79
  go_wp2
  all_goals go_ret
  all_goals refine ⟨ret_i ?_, rfl⟩
  all_goals (have e := E.out; omega)

