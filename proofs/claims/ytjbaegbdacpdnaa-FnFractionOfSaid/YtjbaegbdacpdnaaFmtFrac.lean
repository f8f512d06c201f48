/-
  The walks of fractions.
-/
import Derived.Test.YtjbaegbdacpdnaaFmtTo
namespace Go.Proofs.Ytjbaegbdacpdnaa
open Go.RowKit

set_option maxHeartbeats 1000000 in
theorem fractionOf_yes (W P n m : Int) (w : World) (hv : (1 ≤ W ∧ W ≤ 12) ∧ 0 ≤ P ∧ P ≤ 16) (hn : -1099511627776 ≤ n ∧ n ≤ 1099511627776) (hm : 1 ≤ m ∧ m ≤ 1099511627776) :
    Calls Try.prog 29 #[.agg #[.int .i64 W, .int .i64 P], .int .i64 n, .int .i64 m] w
      fun e w' => e = .returned (.tuple #[.int .i64 (Fx.cut W P (Fx.fracOf P n m)), .bool (Fx.cut W P (Fx.fracOf P n m) == Fx.fracOf P n m)]) ∧ Below w.heap.size w w' := by
  have hx := hold_two w (.int .i64 W) (.int .i64 P) 32
  have hq := Fx.pow_16 (k := P.toNat) (by omega)
  have hb := Fx.mul_bounds hn (show 0 ≤ (2 : Int) ^ P.toNat ∧ (2 : Int) ^ P.toNat ≤ 65536 by omega)
  have HT := Lib.hid (show Fx.roundDiv (n * 2 ^ P.toNat) m = Fx.fracOf P n m from Fx.roundDiv_in _ _ (by unfold Fx.Work; omega) (by omega) (by omega))
  have hu : IntKind.u64.wrap P = P := IntWalk.u64_in _ (by omega)
  have hmin : min P.toNat 64 = P.toNat := by omega
  have hw2 : IntKind.i64.wrap (n * 2 ^ P.toNat) = n * 2 ^ P.toNat := IntWalk.i64_in _ (by omega)
  (have hf := hx.2; simp only [List.forall_mem_cons, List.not_mem_nil, false_imp_iff, implies_true, and_true] at hf)
  go_enter Try.func29, Try.ntmps29
  go_wp2_with (first | (go_at_call 73; refine (formatValid_yes _ _ _ hv).mono ?_; rintro e w1 ⟨rfl, hb⟩; have hx := hx.below hb; (have hf := hx.2; simp only [List.forall_mem_cons, List.not_mem_nil, false_imp_iff, implies_true, and_true] at hf); clear hb) | (go_at_call 74; refine (within_yes _ _ _ ?_).mono ?_; (omega); rintro e w' ⟨rfl, rfl⟩) | (go_at_call 74; refine (within_no _ _ _ ?_).mono ?_; (omega); rintro e w' ⟨rfl, rfl⟩))
  (have hn : Nonempty (Held w [(w.heap.size, 0, .int .i64 W), (w.heap.size, 1, .int .i64 P)]) := ⟨⟨_, hx⟩⟩; have hl0 : ∀ x : Held w [(w.heap.size, 0, .int .i64 W), (w.heap.size, 1, .int .i64 P)], x.it.cell? ⟨w.heap.size, 0, none⟩ = some (.int .i64 W) := fun x => x.at0; have hl1 : ∀ x : Held w [(w.heap.size, 0, .int .i64 W), (w.heap.size, 1, .int .i64 P)], x.it.cell? ⟨w.heap.size, 1, none⟩ = some (.int .i64 P) := fun x => x.at1; refine wp_region_hold [(w.heap.size, 0, .int .i64 W), (w.heap.size, 1, .int .i64 P)] hx (by kernel_rfl) (by kernel_rfl) ?_; (repeat (go_big_quiet_step ((first | (go_at_call 40; first | exact Calls.held (roundDiv_any _ _ _) | exact Calls.held_same (roundDiv_any _ _ _)) | (go_at_call 75; first | exact Calls.held (cutStored_yes _ _ _ _ hv) | exact Calls.held_same (cutStored_yes _ _ _ _ hv)))))); refine wpQuiet_nil ?_; intro _ hx; clear hn hl0 hl1)
  go_wp2
  go_ret2
  exact ⟨by rw [← HT.out]; try rfl, hx.1⟩

set_option maxHeartbeats 1000000 in
theorem fractionOf_no (W P n m : Int) (w : World) (h : ¬(((1 ≤ W ∧ W ≤ 12) ∧ 0 ≤ P ∧ P ≤ 16) ∧ (-1099511627776 ≤ n ∧ n ≤ 1099511627776) ∧ 1 ≤ m ∧ m ≤ 1099511627776)) :
    Calls Try.prog 29 #[.agg #[.int .i64 W, .int .i64 P], .int .i64 n, .int .i64 m] w
      fun e w' => e = .returned (.tuple #[.int .i64 0, .bool false]) ∧ Below w.heap.size w w' := by
  have hx := hold_two w (.int .i64 W) (.int .i64 P) 32
  (have hf := hx.2; simp only [List.forall_mem_cons, List.not_mem_nil, false_imp_iff, implies_true, and_true] at hf)
  by_cases hv : (1 ≤ W ∧ W ≤ 12) ∧ 0 ≤ P ∧ P ≤ 16
  · by_cases hn : -1099511627776 ≤ n ∧ n ≤ 1099511627776
    · have hm : m < 1 ∨ 1099511627776 < m := by omega
      clear h
      go_enter Try.func29, Try.ntmps29
      go_wp2_with (first | (go_at_call 73; refine (formatValid_yes _ _ _ hv).mono ?_; rintro e w1 ⟨rfl, hb⟩; have hx := hx.below hb; (have hf := hx.2; simp only [List.forall_mem_cons, List.not_mem_nil, false_imp_iff, implies_true, and_true] at hf); clear hb) | (go_at_call 74; refine (within_yes _ _ _ ?_).mono ?_; (omega); rintro e w' ⟨rfl, rfl⟩) | (go_at_call 74; refine (within_no _ _ _ ?_).mono ?_; (omega); rintro e w' ⟨rfl, rfl⟩))
      all_goals go_ret2
      all_goals exact ⟨rfl, hx.1⟩
    · clear h
      go_enter Try.func29, Try.ntmps29
      go_wp2_with (first | (go_at_call 73; refine (formatValid_yes _ _ _ hv).mono ?_; rintro e w1 ⟨rfl, hb⟩; have hx := hx.below hb; (have hf := hx.2; simp only [List.forall_mem_cons, List.not_mem_nil, false_imp_iff, implies_true, and_true] at hf); clear hb) | (go_at_call 74; refine (within_yes _ _ _ ?_).mono ?_; (omega); rintro e w' ⟨rfl, rfl⟩) | (go_at_call 74; refine (within_no _ _ _ ?_).mono ?_; (omega); rintro e w' ⟨rfl, rfl⟩))
      go_ret2
      exact ⟨rfl, hx.1⟩
  · have H := Lib.hid hv
    clear h hv
    go_enter Try.func29, Try.ntmps29
    go_wp2_with (go_at_call 73; refine (formatValid_no _ _ _ H.out).mono ?_; rintro e w1 ⟨rfl, hb⟩; have hx := hx.below hb; (have hf := hx.2; simp only [List.forall_mem_cons, List.not_mem_nil, false_imp_iff, implies_true, and_true] at hf); clear hb)
    go_ret2
    exact ⟨rfl, hx.1⟩

set_option maxHeartbeats 1000000 in
theorem s_fractionOf_yes (W P n m : Int) (w : World) (hv : (1 ≤ W ∧ W ≤ 12) ∧ 0 ≤ P ∧ P ≤ 16) (hn : -1099511627776 ≤ n ∧ n ≤ 1099511627776) (hm : 1 ≤ m ∧ m ≤ 1099511627776) :
    Calls Try.prog 27 #[.agg #[.int .i64 W, .int .i64 P], .int .i64 n, .int .i64 m] w
      fun e w' => e = .returned (.tuple #[.int .i64 (Fx.cut W P (Fx.fracOf P n m)), .bool (Fx.cut W P (Fx.fracOf P n m) == Fx.fracOf P n m)]) ∧ Below w.heap.size w w' := by
  have hx := hold_two w (.int .i64 W) (.int .i64 P) 32
  have hq := Fx.pow_16 (k := P.toNat) (by omega)
  have hb := Fx.mul_bounds hn (show 0 ≤ (2 : Int) ^ P.toNat ∧ (2 : Int) ^ P.toNat ≤ 65536 by omega)
  have HT := Lib.hid (show Fx.rnd (n * 2 ^ P.toNat) m = Fx.fracOf P n m from rfl)
  have hw2 : IntKind.i64.wrap (n * 2 ^ P.toNat) = n * 2 ^ P.toNat := IntWalk.i64_in _ (by omega)
  (have hf := hx.2; simp only [List.forall_mem_cons, List.not_mem_nil, false_imp_iff, implies_true, and_true] at hf)
  go_enter Try.func27, Try.ntmps27
  go_wp2_with (first | (go_at_call 49; refine (s_formatValid_yes _ _ _ hv).mono ?_; rintro e w1 ⟨rfl, hb⟩; have hx := hx.below hb; (have hf := hx.2; simp only [List.forall_mem_cons, List.not_mem_nil, false_imp_iff, implies_true, and_true] at hf); clear hb) | (go_at_call 68; refine (l1In_yes _ _ _ _ ?_).mono ?_; (omega); rintro e w' ⟨rfl, rfl⟩) | (go_at_call 68; refine (l1In_no _ _ _ _ ?_).mono ?_; (omega); rintro e w' ⟨rfl, rfl⟩))
  (have hn : Nonempty (Held w [(w.heap.size, 0, .int .i64 W), (w.heap.size, 1, .int .i64 P)]) := ⟨⟨_, hx⟩⟩; have hl0 : ∀ x : Held w [(w.heap.size, 0, .int .i64 W), (w.heap.size, 1, .int .i64 P)], x.it.cell? ⟨w.heap.size, 0, none⟩ = some (.int .i64 W) := fun x => x.at0; have hl1 : ∀ x : Held w [(w.heap.size, 0, .int .i64 W), (w.heap.size, 1, .int .i64 P)], x.it.cell? ⟨w.heap.size, 1, none⟩ = some (.int .i64 P) := fun x => x.at1; refine wp_region_hold [(w.heap.size, 0, .int .i64 W), (w.heap.size, 1, .int .i64 P)] hx (by kernel_rfl) (by kernel_rfl) ?_; (repeat (go_big_quiet_step ((first | (go_at_call 72; first | exact Calls.held (l1Round_any _ _ _ (by omega) (by omega)) | exact Calls.held_same (l1Round_any _ _ _ (by omega) (by omega))) | (go_at_call 71; first | exact Calls.held (l4Cut_any _ _ _ _ hv) | exact Calls.held_same (l4Cut_any _ _ _ _ hv)))))); refine wpQuiet_nil ?_; intro _ hx; clear hn hl0 hl1)
  go_wp2
  go_ret2
  exact ⟨by rw [← HT.out]; try rfl, hx.1⟩

set_option maxHeartbeats 1000000 in
theorem s_fractionOf_no (W P n m : Int) (w : World) (h : ¬(((1 ≤ W ∧ W ≤ 12) ∧ 0 ≤ P ∧ P ≤ 16) ∧ (-1099511627776 ≤ n ∧ n ≤ 1099511627776) ∧ 1 ≤ m ∧ m ≤ 1099511627776)) :
    Calls Try.prog 27 #[.agg #[.int .i64 W, .int .i64 P], .int .i64 n, .int .i64 m] w
      fun e w' => e = .returned (.tuple #[.int .i64 0, .bool false]) ∧ Below w.heap.size w w' := by
  have hx := hold_two w (.int .i64 W) (.int .i64 P) 32
  (have hf := hx.2; simp only [List.forall_mem_cons, List.not_mem_nil, false_imp_iff, implies_true, and_true] at hf)
  by_cases hv : (1 ≤ W ∧ W ≤ 12) ∧ 0 ≤ P ∧ P ≤ 16
  · by_cases hn : -1099511627776 ≤ n ∧ n ≤ 1099511627776
    · have hm : m < 1 ∨ 1099511627776 < m := by omega
      clear h
      go_enter Try.func27, Try.ntmps27
      go_wp2_with (first | (go_at_call 49; refine (s_formatValid_yes _ _ _ hv).mono ?_; rintro e w1 ⟨rfl, hb⟩; have hx := hx.below hb; (have hf := hx.2; simp only [List.forall_mem_cons, List.not_mem_nil, false_imp_iff, implies_true, and_true] at hf); clear hb) | (go_at_call 68; refine (l1In_yes _ _ _ _ ?_).mono ?_; (omega); rintro e w' ⟨rfl, rfl⟩) | (go_at_call 68; refine (l1In_no _ _ _ _ ?_).mono ?_; (omega); rintro e w' ⟨rfl, rfl⟩))
      all_goals go_ret2
      all_goals exact ⟨rfl, hx.1⟩
    · clear h
      go_enter Try.func27, Try.ntmps27
      go_wp2_with (first | (go_at_call 49; refine (s_formatValid_yes _ _ _ hv).mono ?_; rintro e w1 ⟨rfl, hb⟩; have hx := hx.below hb; (have hf := hx.2; simp only [List.forall_mem_cons, List.not_mem_nil, false_imp_iff, implies_true, and_true] at hf); clear hb) | (go_at_call 68; refine (l1In_yes _ _ _ _ ?_).mono ?_; (omega); rintro e w' ⟨rfl, rfl⟩) | (go_at_call 68; refine (l1In_no _ _ _ _ ?_).mono ?_; (omega); rintro e w' ⟨rfl, rfl⟩))
      go_ret2
      exact ⟨rfl, hx.1⟩
  · have H := Lib.hid hv
    clear h hv
    go_enter Try.func27, Try.ntmps27
    go_wp2_with (go_at_call 49; refine (s_formatValid_no _ _ _ H.out).mono ?_; rintro e w1 ⟨rfl, hb⟩; have hx := hx.below hb; (have hf := hx.2; simp only [List.forall_mem_cons, List.not_mem_nil, false_imp_iff, implies_true, and_true] at hf); clear hb)
    go_ret2
    exact ⟨rfl, hx.1⟩

end Go.Proofs.Ytjbaegbdacpdnaa
