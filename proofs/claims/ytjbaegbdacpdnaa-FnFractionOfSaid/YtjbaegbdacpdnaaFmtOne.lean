/-
  The walks of ones, whole numbers and roots of stored numbers.
-/
import Derived.Test.YtjbaegbdacpdnaaFmtTo
import Derived.Test.YtjbaegbdacpdnaaSqrt
namespace Go.Proofs.Ytjbaegbdacpdnaa
open Go.RowKit

set_option maxHeartbeats 400000 in
theorem oneOf_yes (W P : Int) (w : World) (h : (1 ≤ W ∧ W ≤ 12) ∧ 0 ≤ P ∧ P ≤ 16) :
    Calls Try.prog 52 #[.agg #[.int .i64 W, .int .i64 P]] w fun e w' => e = .returned (.int .i64 (2 ^ P.toNat)) ∧ Below w.heap.size w w' := by
  have hx := hold_two w (.int .i64 W) (.int .i64 P) 32
  have hp := Fx.pow_16 (k := P.toNat) (by omega)
  (have hf := hx.2; simp only [List.forall_mem_cons, List.not_mem_nil, false_imp_iff, implies_true, and_true] at hf)
  go_enter Try.func52, Try.ntmps52
  go_wp2_with (go_at_call 73; refine (formatValid_yes _ _ _ h).mono ?_; rintro e w1 ⟨rfl, hb⟩; replace hx := hx.below hb; clear hb; (try clear hf); (have hf := hx.2; simp only [List.forall_mem_cons, List.not_mem_nil, false_imp_iff, implies_true, and_true] at hf))
  go_ret
  exact ⟨rfl, hx.1⟩
set_option maxHeartbeats 400000 in
theorem oneOf_no (W P : Int) (w : World) (h : ¬((1 ≤ W ∧ W ≤ 12) ∧ 0 ≤ P ∧ P ≤ 16)) :
    Calls Try.prog 52 #[.agg #[.int .i64 W, .int .i64 P]] w fun e w' => e = .returned (.int .i64 (-1)) ∧ Below w.heap.size w w' := by
  have hx := hold_two w (.int .i64 W) (.int .i64 P) 32
  have H := Lib.hid h
  clear h
  (have hf := hx.2; simp only [List.forall_mem_cons, List.not_mem_nil, false_imp_iff, implies_true, and_true] at hf)
  go_enter Try.func52, Try.ntmps52
  go_wp2_with (go_at_call 73; refine (formatValid_no _ _ _ H.out).mono ?_; rintro e w1 ⟨rfl, hb⟩; replace hx := hx.below hb; clear hb; (try clear hf); (have hf := hx.2; simp only [List.forall_mem_cons, List.not_mem_nil, false_imp_iff, implies_true, and_true] at hf))
  go_ret
  exact ⟨rfl, hx.1⟩

set_option maxHeartbeats 400000 in
theorem s_oneOf_yes (W P : Int) (w : World) (h : (1 ≤ W ∧ W ≤ 12) ∧ 0 ≤ P ∧ P ≤ 16) :
    Calls Try.prog 53 #[.agg #[.int .i64 W, .int .i64 P]] w fun e w' => e = .returned (.int .i64 (2 ^ P.toNat)) ∧ Below w.heap.size w w' := by
  have hx := hold_two w (.int .i64 W) (.int .i64 P) 32
  have hp := Fx.pow_16 (k := P.toNat) (by omega)
  (have hf := hx.2; simp only [List.forall_mem_cons, List.not_mem_nil, false_imp_iff, implies_true, and_true] at hf)
  go_enter Try.func53, Try.ntmps53
  go_wp2_with (go_at_call 49; refine (s_formatValid_yes _ _ _ h).mono ?_; rintro e w1 ⟨rfl, hb⟩; replace hx := hx.below hb; clear hb; (try clear hf); (have hf := hx.2; simp only [List.forall_mem_cons, List.not_mem_nil, false_imp_iff, implies_true, and_true] at hf))
  go_ret
  exact ⟨rfl, hx.1⟩
set_option maxHeartbeats 400000 in
theorem s_oneOf_no (W P : Int) (w : World) (h : ¬((1 ≤ W ∧ W ≤ 12) ∧ 0 ≤ P ∧ P ≤ 16)) :
    Calls Try.prog 53 #[.agg #[.int .i64 W, .int .i64 P]] w fun e w' => e = .returned (.int .i64 (-1)) ∧ Below w.heap.size w w' := by
  have hx := hold_two w (.int .i64 W) (.int .i64 P) 32
  have H := Lib.hid h
  clear h
  (have hf := hx.2; simp only [List.forall_mem_cons, List.not_mem_nil, false_imp_iff, implies_true, and_true] at hf)
  go_enter Try.func53, Try.ntmps53
  go_wp2_with (go_at_call 49; refine (s_formatValid_no _ _ _ H.out).mono ?_; rintro e w1 ⟨rfl, hb⟩; replace hx := hx.below hb; clear hb; (try clear hf); (have hf := hx.2; simp only [List.forall_mem_cons, List.not_mem_nil, false_imp_iff, implies_true, and_true] at hf))
  go_ret
  exact ⟨rfl, hx.1⟩

set_option maxHeartbeats 1000000 in
theorem wholeOf_yes (W P n : Int) (w : World) (h : ((1 ≤ W ∧ W ≤ 12) ∧ 0 ≤ P ∧ P ≤ 16) ∧ -2 ^ (W + P).toNat ≤ n ∧ n ≤ 2 ^ (W + P).toNat - 1) :
    Calls Try.prog 55 #[.agg #[.int .i64 W, .int .i64 P], .int .i64 n] w fun e w' => e = .returned (.int .i64 (Fx.rnd n (2 ^ P.toNat))) ∧ Below w.heap.size w w' := by
  have hx := hold_two w (.int .i64 W) (.int .i64 P) 32
  have hp := Fx.pow_28 (k := (W + P).toNat) (by omega)
  have HT := Lib.hid (Fx.roundShift_in n P (by unfold Fx.Work; omega) (by omega) (by omega))
  (have hf := hx.2; simp only [List.forall_mem_cons, List.not_mem_nil, false_imp_iff, implies_true, and_true] at hf)
  go_enter Try.func55, Try.ntmps55
  go_wp2_with (first | (go_at_call 50; refine (storedFits_yes _ _ _ _ h).mono ?_; rintro e w1 ⟨rfl, hb⟩; replace hx := hx.below hb; clear hb; (try clear hf); (have hf := hx.2; simp only [List.forall_mem_cons, List.not_mem_nil, false_imp_iff, implies_true, and_true] at hf)) | (go_at_call 44; refine (roundShift_any _ _ _).mono ?_; rintro e w' ⟨rfl, rfl⟩))
  go_ret
  exact ⟨ret_i HT.out, hx.1⟩
set_option maxHeartbeats 1000000 in
theorem wholeOf_no (W P n : Int) (w : World) (h : ¬(((1 ≤ W ∧ W ≤ 12) ∧ 0 ≤ P ∧ P ≤ 16) ∧ -2 ^ (W + P).toNat ≤ n ∧ n ≤ 2 ^ (W + P).toNat - 1)) :
    Calls Try.prog 55 #[.agg #[.int .i64 W, .int .i64 P], .int .i64 n] w fun e w' => e = .returned (.int .i64 0) ∧ Below w.heap.size w w' := by
  have hx := hold_two w (.int .i64 W) (.int .i64 P) 32
  have H := Lib.hid h
  clear h
  (have hf := hx.2; simp only [List.forall_mem_cons, List.not_mem_nil, false_imp_iff, implies_true, and_true] at hf)
  go_enter Try.func55, Try.ntmps55
  go_wp2_with (first | (go_at_call 50; refine (storedFits_no _ _ _ _ H.out).mono ?_; rintro e w1 ⟨rfl, hb⟩; replace hx := hx.below hb; clear hb; (try clear hf); (have hf := hx.2; simp only [List.forall_mem_cons, List.not_mem_nil, false_imp_iff, implies_true, and_true] at hf)))
  go_ret
  exact ⟨rfl, hx.1⟩

set_option maxHeartbeats 1000000 in
theorem s_wholeOf_yes (W P n : Int) (w : World) (h : ((1 ≤ W ∧ W ≤ 12) ∧ 0 ≤ P ∧ P ≤ 16) ∧ -2 ^ (W + P).toNat ≤ n ∧ n ≤ 2 ^ (W + P).toNat - 1) :
    Calls Try.prog 56 #[.agg #[.int .i64 W, .int .i64 P], .int .i64 n] w fun e w' => e = .returned (.int .i64 (Fx.rnd n (2 ^ P.toNat))) ∧ Below w.heap.size w w' := by
  have hx := hold_two w (.int .i64 W) (.int .i64 P) 32
  have hp := Fx.pow_28 (k := (W + P).toNat) (by omega)
  have hq := Fx.pow_16 (k := P.toNat) (by omega)
  (have hf := hx.2; simp only [List.forall_mem_cons, List.not_mem_nil, false_imp_iff, implies_true, and_true] at hf)
  go_enter Try.func56, Try.ntmps56
  go_wp2_with (first | (go_at_call 57; refine (s_storedFits_yes _ _ _ _ h).mono ?_; rintro e w1 ⟨rfl, hb⟩; replace hx := hx.below hb; clear hb; (try clear hf); (have hf := hx.2; simp only [List.forall_mem_cons, List.not_mem_nil, false_imp_iff, implies_true, and_true] at hf)) | (go_at_call 72; refine (l1Round_any _ _ _ ?_ ?_).mono ?_; omega; omega; rintro e w' ⟨rfl, rfl⟩))
  go_ret
  exact ⟨rfl, hx.1⟩
set_option maxHeartbeats 1000000 in
theorem s_wholeOf_no (W P n : Int) (w : World) (h : ¬(((1 ≤ W ∧ W ≤ 12) ∧ 0 ≤ P ∧ P ≤ 16) ∧ -2 ^ (W + P).toNat ≤ n ∧ n ≤ 2 ^ (W + P).toNat - 1)) :
    Calls Try.prog 56 #[.agg #[.int .i64 W, .int .i64 P], .int .i64 n] w fun e w' => e = .returned (.int .i64 0) ∧ Below w.heap.size w w' := by
  have hx := hold_two w (.int .i64 W) (.int .i64 P) 32
  have H := Lib.hid h
  clear h
  (have hf := hx.2; simp only [List.forall_mem_cons, List.not_mem_nil, false_imp_iff, implies_true, and_true] at hf)
  go_enter Try.func56, Try.ntmps56
  go_wp2_with (first | (go_at_call 57; refine (s_storedFits_no _ _ _ _ H.out).mono ?_; rintro e w1 ⟨rfl, hb⟩; replace hx := hx.below hb; clear hb; (try clear hf); (have hf := hx.2; simp only [List.forall_mem_cons, List.not_mem_nil, false_imp_iff, implies_true, and_true] at hf)))
  go_ret
  exact ⟨rfl, hx.1⟩

theorem root_work {W P a : Int} (h : ((1 ≤ W ∧ W ≤ 12) ∧ 0 ≤ P ∧ P ≤ 16) ∧ -2 ^ (W + P).toNat ≤ a ∧ a ≤ 2 ^ (W + P).toNat - 1) (h0 : 0 ≤ a) : 0 ≤ a * 2 ^ P.toNat ∧ a * 2 ^ P.toNat ≤ 1152921504606846976 := by
  have hp := Fx.pow_28 (k := (W + P).toNat) (by omega)
  have hq := Fx.pow_16 (k := P.toNat) (by omega)
  have hm := Fx.mul_bounds (a := a) (b := 2 ^ P.toNat) (A := 268435456) (B := 65536) (by omega) (by omega)
  have := Int.mul_nonneg h0 (show (0 : Int) ≤ 2 ^ P.toNat by omega)
  omega

set_option maxHeartbeats 1000000 in
theorem sqrtStored_yes (W P a : Int) (w : World) (h : ((1 ≤ W ∧ W ≤ 12) ∧ 0 ≤ P ∧ P ≤ 16) ∧ -2 ^ (W + P).toNat ≤ a ∧ a ≤ 2 ^ (W + P).toNat - 1) (h0 : 0 ≤ a) :
    Calls Try.prog 62 #[.agg #[.int .i64 W, .int .i64 P], .int .i64 a] w fun e w' => e = .returned (.tuple #[.int .i64 (Fx.isqrt (a * 2 ^ P.toNat)), .bool true]) ∧ Below w.heap.size w w' := by
  have hx := hold_two w (.int .i64 W) (.int .i64 P) 32
  have hr := root_work h h0
  have HT := Lib.hid (Fx.sqrtFloor_in _ hr.1 hr.2)
  (have hf := hx.2; simp only [List.forall_mem_cons, List.not_mem_nil, false_imp_iff, implies_true, and_true] at hf)
  go_enter Try.func62, Try.ntmps62
  go_wp2_with (first | (go_at_call 50; refine (storedFits_yes _ _ _ _ h).mono ?_; rintro e w1 ⟨rfl, hb⟩; replace hx := hx.below hb; clear hb; (try clear hf); (have hf := hx.2; simp only [List.forall_mem_cons, List.not_mem_nil, false_imp_iff, implies_true, and_true] at hf)) | (go_at_call 90; refine (sqrtFloor_any _ _).mono ?_; rintro e w' ⟨rfl, rfl⟩))
  go_ret2
  exact ⟨by rw [← HT.out]; try rfl, hx.1⟩
set_option maxHeartbeats 1000000 in
theorem sqrtStored_no (W P a : Int) (w : World) (h : ¬((((1 ≤ W ∧ W ≤ 12) ∧ 0 ≤ P ∧ P ≤ 16) ∧ -2 ^ (W + P).toNat ≤ a ∧ a ≤ 2 ^ (W + P).toNat - 1) ∧ 0 ≤ a)) :
    Calls Try.prog 62 #[.agg #[.int .i64 W, .int .i64 P], .int .i64 a] w fun e w' => e = .returned (.tuple #[.int .i64 0, .bool false]) ∧ Below w.heap.size w w' := by
  have hx := hold_two w (.int .i64 W) (.int .i64 P) 32
  by_cases hf : ((1 ≤ W ∧ W ≤ 12) ∧ 0 ≤ P ∧ P ≤ 16) ∧ -2 ^ (W + P).toNat ≤ a ∧ a ≤ 2 ^ (W + P).toNat - 1
  · have h0 : a < 0 := by omega
    have H := Lib.hid hf
    clear h hf
    (have hf := hx.2; simp only [List.forall_mem_cons, List.not_mem_nil, false_imp_iff, implies_true, and_true] at hf)
    go_enter Try.func62, Try.ntmps62
    go_wp2_with (first | (go_at_call 50; refine (storedFits_yes _ _ _ _ H.out).mono ?_; rintro e w1 ⟨rfl, hb⟩; replace hx := hx.below hb; clear hb; (try clear hf); (have hf := hx.2; simp only [List.forall_mem_cons, List.not_mem_nil, false_imp_iff, implies_true, and_true] at hf)))
    go_ret2
    exact ⟨rfl, hx.1⟩
  · have H := Lib.hid hf
    clear h hf
    (have hf := hx.2; simp only [List.forall_mem_cons, List.not_mem_nil, false_imp_iff, implies_true, and_true] at hf)
    go_enter Try.func62, Try.ntmps62
    go_wp2_with (first | (go_at_call 50; refine (storedFits_no _ _ _ _ H.out).mono ?_; rintro e w1 ⟨rfl, hb⟩; replace hx := hx.below hb; clear hb; (try clear hf); (have hf := hx.2; simp only [List.forall_mem_cons, List.not_mem_nil, false_imp_iff, implies_true, and_true] at hf)))
    go_ret2
    exact ⟨rfl, hx.1⟩

set_option maxHeartbeats 1000000 in
theorem s_sqrtStored_yes (W P a : Int) (w : World) (h : ((1 ≤ W ∧ W ≤ 12) ∧ 0 ≤ P ∧ P ≤ 16) ∧ -2 ^ (W + P).toNat ≤ a ∧ a ≤ 2 ^ (W + P).toNat - 1) (h0 : 0 ≤ a) :
    Calls Try.prog 63 #[.agg #[.int .i64 W, .int .i64 P], .int .i64 a] w fun e w' => e = .returned (.tuple #[.int .i64 (Fx.isqrt (a * 2 ^ P.toNat)), .bool true]) ∧ Below w.heap.size w w' := by
  have hx := hold_two w (.int .i64 W) (.int .i64 P) 32
  have hr := root_work h h0
  (have hf := hx.2; simp only [List.forall_mem_cons, List.not_mem_nil, false_imp_iff, implies_true, and_true] at hf)
  go_enter Try.func63, Try.ntmps63
  go_wp2_with (first | (go_at_call 57; refine (s_storedFits_yes _ _ _ _ h).mono ?_; rintro e w1 ⟨rfl, hb⟩; replace hx := hx.below hb; clear hb; (try clear hf); (have hf := hx.2; simp only [List.forall_mem_cons, List.not_mem_nil, false_imp_iff, implies_true, and_true] at hf)) | (go_at_call 91; refine (l2Sqrt_any _ _ ?_ ?_).mono ?_; omega; omega; rintro e w' ⟨rfl, rfl⟩))
  go_ret2
  exact ⟨rfl, hx.1⟩
set_option maxHeartbeats 1000000 in
theorem s_sqrtStored_no (W P a : Int) (w : World) (h : ¬((((1 ≤ W ∧ W ≤ 12) ∧ 0 ≤ P ∧ P ≤ 16) ∧ -2 ^ (W + P).toNat ≤ a ∧ a ≤ 2 ^ (W + P).toNat - 1) ∧ 0 ≤ a)) :
    Calls Try.prog 63 #[.agg #[.int .i64 W, .int .i64 P], .int .i64 a] w fun e w' => e = .returned (.tuple #[.int .i64 0, .bool false]) ∧ Below w.heap.size w w' := by
  have hx := hold_two w (.int .i64 W) (.int .i64 P) 32
  by_cases hf : ((1 ≤ W ∧ W ≤ 12) ∧ 0 ≤ P ∧ P ≤ 16) ∧ -2 ^ (W + P).toNat ≤ a ∧ a ≤ 2 ^ (W + P).toNat - 1
  · have h0 : a < 0 := by omega
    have H := Lib.hid hf
    clear h hf
    (have hf := hx.2; simp only [List.forall_mem_cons, List.not_mem_nil, false_imp_iff, implies_true, and_true] at hf)
    go_enter Try.func63, Try.ntmps63
    go_wp2_with (first | (go_at_call 57; refine (s_storedFits_yes _ _ _ _ H.out).mono ?_; rintro e w1 ⟨rfl, hb⟩; replace hx := hx.below hb; clear hb; (try clear hf); (have hf := hx.2; simp only [List.forall_mem_cons, List.not_mem_nil, false_imp_iff, implies_true, and_true] at hf)))
    go_ret2
    exact ⟨rfl, hx.1⟩
  · have H := Lib.hid hf
    clear h hf
    (have hf := hx.2; simp only [List.forall_mem_cons, List.not_mem_nil, false_imp_iff, implies_true, and_true] at hf)
    go_enter Try.func63, Try.ntmps63
    go_wp2_with (first | (go_at_call 57; refine (s_storedFits_no _ _ _ _ H.out).mono ?_; rintro e w1 ⟨rfl, hb⟩; replace hx := hx.below hb; clear hb; (try clear hf); (have hf := hx.2; simp only [List.forall_mem_cons, List.not_mem_nil, false_imp_iff, implies_true, and_true] at hf)))
    go_ret2
    exact ⟨rfl, hx.1⟩

end Go.Proofs.Ytjbaegbdacpdnaa
