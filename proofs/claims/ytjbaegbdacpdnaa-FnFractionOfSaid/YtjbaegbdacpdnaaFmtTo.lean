/-
  The walks of conversions and fractions.
-/
import Derived.Test.YtjbaegbdacpdnaaFmt
namespace Go.Proofs.Ytjbaegbdacpdnaa
open Go.RowKit

set_option maxHeartbeats 1000000 in
theorem toFormat_no (n W P V Q : Int) (w : World) (h : ¬((((1 ≤ W ∧ W ≤ 12) ∧ 0 ≤ P ∧ P ≤ 16) ∧ -2 ^ (W + P).toNat ≤ n ∧ n ≤ 2 ^ (W + P).toNat - 1) ∧ (1 ≤ V ∧ V ≤ 12) ∧ 0 ≤ Q ∧ Q ≤ 16)) :
    Calls Try.prog 31 #[.int .i64 n, .agg #[.int .i64 W, .int .i64 P], .agg #[.int .i64 V, .int .i64 Q]] w
      fun e w' => e = .returned (.tuple #[.int .i64 0, .bool false]) ∧ Below w.heap.size w w' := by
  have hx := hold_four w (.int .i64 W) (.int .i64 P) (.int .i64 V) (.int .i64 Q) 32 32
  by_cases h1 : ((1 ≤ W ∧ W ≤ 12) ∧ 0 ≤ P ∧ P ≤ 16) ∧ -2 ^ (W + P).toNat ≤ n ∧ n ≤ 2 ^ (W + P).toNat - 1
  · have H2 := Lib.hid (show ¬((1 ≤ V ∧ V ≤ 12) ∧ 0 ≤ Q ∧ Q ≤ 16) from fun hv => h ⟨h1, hv⟩)
    have H1 := Lib.hid h1
    clear h h1
    (have hf := hx.2; simp only [List.forall_mem_cons, List.not_mem_nil, false_imp_iff, implies_true, and_true] at hf)
    go_enter Try.func31, Try.ntmps31
    go_wp2_with (first | (go_at_call 50; refine (storedFits_yes _ _ _ _ H1.out).mono ?_; rintro e w1 ⟨rfl, hb⟩; have hx := hx.below hb; (have hf := hx.2; simp only [List.forall_mem_cons, List.not_mem_nil, false_imp_iff, implies_true, and_true] at hf); clear hb) | (go_at_call 73; refine (formatValid_no _ _ _ H2.out).mono ?_; rintro e w1 ⟨rfl, hb⟩; have hx := hx.below hb; (have hf := hx.2; simp only [List.forall_mem_cons, List.not_mem_nil, false_imp_iff, implies_true, and_true] at hf); clear hb))
    go_ret2
    exact ⟨rfl, hx.1⟩
  · have H1 := Lib.hid h1
    clear h h1
    (have hf := hx.2; simp only [List.forall_mem_cons, List.not_mem_nil, false_imp_iff, implies_true, and_true] at hf)
    go_enter Try.func31, Try.ntmps31
    go_wp2_with (first | (go_at_call 50; refine (storedFits_no _ _ _ _ H1.out).mono ?_; rintro e w1 ⟨rfl, hb⟩; have hx := hx.below hb; (have hf := hx.2; simp only [List.forall_mem_cons, List.not_mem_nil, false_imp_iff, implies_true, and_true] at hf); clear hb))
    go_ret2
    exact ⟨rfl, hx.1⟩

set_option maxHeartbeats 1000000 in
theorem s_toFormat_no (n W P V Q : Int) (w : World) (h : ¬((((1 ≤ W ∧ W ≤ 12) ∧ 0 ≤ P ∧ P ≤ 16) ∧ -2 ^ (W + P).toNat ≤ n ∧ n ≤ 2 ^ (W + P).toNat - 1) ∧ (1 ≤ V ∧ V ≤ 12) ∧ 0 ≤ Q ∧ Q ≤ 16)) :
    Calls Try.prog 30 #[.int .i64 n, .agg #[.int .i64 W, .int .i64 P], .agg #[.int .i64 V, .int .i64 Q]] w
      fun e w' => e = .returned (.tuple #[.int .i64 0, .bool false]) ∧ Below w.heap.size w w' := by
  have hx := hold_four w (.int .i64 W) (.int .i64 P) (.int .i64 V) (.int .i64 Q) 32 32
  by_cases h1 : (1 ≤ V ∧ V ≤ 12) ∧ 0 ≤ Q ∧ Q ≤ 16
  · have H2 := Lib.hid (show ¬(((1 ≤ W ∧ W ≤ 12) ∧ 0 ≤ P ∧ P ≤ 16) ∧ -2 ^ (W + P).toNat ≤ n ∧ n ≤ 2 ^ (W + P).toNat - 1) from fun hv => h ⟨hv, h1⟩)
    have H1 := Lib.hid h1
    clear h h1
    (have hf := hx.2; simp only [List.forall_mem_cons, List.not_mem_nil, false_imp_iff, implies_true, and_true] at hf)
    go_enter Try.func30, Try.ntmps30
    go_wp2_with (first | (go_at_call 49; refine (s_formatValid_yes _ _ _ H1.out).mono ?_; rintro e w1 ⟨rfl, hb⟩; have hx := hx.below hb; (have hf := hx.2; simp only [List.forall_mem_cons, List.not_mem_nil, false_imp_iff, implies_true, and_true] at hf); clear hb) | (go_at_call 57; refine (s_storedFits_no _ _ _ _ H2.out).mono ?_; rintro e w1 ⟨rfl, hb⟩; have hx := hx.below hb; (have hf := hx.2; simp only [List.forall_mem_cons, List.not_mem_nil, false_imp_iff, implies_true, and_true] at hf); clear hb))
    go_ret2
    exact ⟨rfl, hx.1⟩
  · have H1 := Lib.hid h1
    clear h h1
    (have hf := hx.2; simp only [List.forall_mem_cons, List.not_mem_nil, false_imp_iff, implies_true, and_true] at hf)
    go_enter Try.func30, Try.ntmps30
    go_wp2_with (first | (go_at_call 49; refine (s_formatValid_no _ _ _ H1.out).mono ?_; rintro e w1 ⟨rfl, hb⟩; have hx := hx.below hb; (have hf := hx.2; simp only [List.forall_mem_cons, List.not_mem_nil, false_imp_iff, implies_true, and_true] at hf); clear hb))
    go_ret2
    exact ⟨rfl, hx.1⟩

set_option maxHeartbeats 1000000 in
theorem s_toFormat_yes (n W P V Q : Int) (w : World) (h : ((1 ≤ W ∧ W ≤ 12) ∧ 0 ≤ P ∧ P ≤ 16) ∧ -2 ^ (W + P).toNat ≤ n ∧ n ≤ 2 ^ (W + P).toNat - 1) (hv : (1 ≤ V ∧ V ≤ 12) ∧ 0 ≤ Q ∧ Q ≤ 16) :
    Calls Try.prog 30 #[.int .i64 n, .agg #[.int .i64 W, .int .i64 P], .agg #[.int .i64 V, .int .i64 Q]] w
      fun e w' => e = .returned (.tuple #[.int .i64 (Fx.cut V Q (Fx.toFmt n P Q)), .bool (Fx.cut V Q (Fx.toFmt n P Q) == Fx.toFmt n P Q)]) ∧ Below w.heap.size w w' := by
  have hx := hold_four w (.int .i64 W) (.int .i64 P) (.int .i64 V) (.int .i64 Q) 32 32
  have hp := Fx.pow_28 (k := (W + P).toNat) (by omega)
  have hn : -268435456 ≤ n ∧ n ≤ 268435456 := by omega
  by_cases hc : P ≤ Q
  · have hq := Fx.pow_16 (k := (Q - P).toNat) (by omega)
    have hm := Fx.mul_bounds hn (show 0 ≤ (2 : Int) ^ (Q - P).toNat ∧ (2 : Int) ^ (Q - P).toNat ≤ 65536 by omega)
    have HT := Lib.hid (show Fx.toFmt n P Q = n * 2 ^ (Q - P).toNat from if_pos hc)
    have hw : IntKind.i64.wrap (Q - P) = Q - P := IntWalk.i64_in _ (by omega)
    have hw2 : IntKind.i64.wrap (n * 2 ^ (Q - P).toNat) = n * 2 ^ (Q - P).toNat := IntWalk.i64_in _ (by omega)
    (have hf := hx.2; simp only [List.forall_mem_cons, List.not_mem_nil, false_imp_iff, implies_true, and_true] at hf)
    go_enter Try.func30, Try.ntmps30
    go_wp2_with (first | (go_at_call 49; refine (s_formatValid_yes _ _ _ hv).mono ?_; rintro e w1 ⟨rfl, hb⟩; have hx := hx.below hb; (have hf := hx.2; simp only [List.forall_mem_cons, List.not_mem_nil, false_imp_iff, implies_true, and_true] at hf); clear hb) | (go_at_call 57; refine (s_storedFits_yes _ _ _ _ h).mono ?_; rintro e w1 ⟨rfl, hb⟩; have hx := hx.below hb; (have hf := hx.2; simp only [List.forall_mem_cons, List.not_mem_nil, false_imp_iff, implies_true, and_true] at hf); clear hb))
    (have hn : Nonempty (Held w [(w.heap.size, 0, .int .i64 W), (w.heap.size, 1, .int .i64 P), (w.heap.size + 1, 0, .int .i64 V), (w.heap.size + 1, 1, .int .i64 Q)]) := ⟨⟨_, hx⟩⟩; have hl0 : ∀ x : Held w [(w.heap.size, 0, .int .i64 W), (w.heap.size, 1, .int .i64 P), (w.heap.size + 1, 0, .int .i64 V), (w.heap.size + 1, 1, .int .i64 Q)], x.it.cell? ⟨w.heap.size, 0, none⟩ = some (.int .i64 W) := fun x => x.at0; have hl1 : ∀ x : Held w [(w.heap.size, 0, .int .i64 W), (w.heap.size, 1, .int .i64 P), (w.heap.size + 1, 0, .int .i64 V), (w.heap.size + 1, 1, .int .i64 Q)], x.it.cell? ⟨w.heap.size, 1, none⟩ = some (.int .i64 P) := fun x => x.at1; have hl2 : ∀ x : Held w [(w.heap.size, 0, .int .i64 W), (w.heap.size, 1, .int .i64 P), (w.heap.size + 1, 0, .int .i64 V), (w.heap.size + 1, 1, .int .i64 Q)], x.it.cell? ⟨w.heap.size + 1, 0, none⟩ = some (.int .i64 V) := fun x => x.at2; have hl3 : ∀ x : Held w [(w.heap.size, 0, .int .i64 W), (w.heap.size, 1, .int .i64 P), (w.heap.size + 1, 0, .int .i64 V), (w.heap.size + 1, 1, .int .i64 Q)], x.it.cell? ⟨w.heap.size + 1, 1, none⟩ = some (.int .i64 Q) := fun x => x.at3; refine wp_region_hold [(w.heap.size, 0, .int .i64 W), (w.heap.size, 1, .int .i64 P), (w.heap.size + 1, 0, .int .i64 V), (w.heap.size + 1, 1, .int .i64 Q)] hx (by kernel_rfl) (by kernel_rfl) ?_; (repeat (go_big_quiet_step (((go_at_call 71; first | exact Calls.held (l4Cut_any _ _ _ _ hv) | exact Calls.held_same (l4Cut_any _ _ _ _ hv)))))); refine wpQuiet_nil ?_; intro _ hx; clear hn hl0 hl1 hl2 hl3)
    go_wp2
    go_ret2
    exact ⟨by rw [HT.out]; try rfl, hx.1⟩
  · have hq := Fx.pow_16 (k := (P - Q).toNat) (by omega)
    have HT := Lib.hid (show Fx.toFmt n P Q = Fx.rnd n (2 ^ (P - Q).toNat) from if_neg hc)
    have hw : IntKind.i64.wrap (P - Q) = P - Q := IntWalk.i64_in _ (by omega)
    have hw2 : IntKind.i64.wrap (1 * 2 ^ (P - Q).toNat) = 2 ^ (P - Q).toNat := by rw [Int.one_mul]; exact IntWalk.i64_in _ (by omega)
    have hw3 : IntKind.i64.wrap (2 ^ (P - Q).toNat) = 2 ^ (P - Q).toNat := IntWalk.i64_in _ (by omega)
    (have hf := hx.2; simp only [List.forall_mem_cons, List.not_mem_nil, false_imp_iff, implies_true, and_true] at hf)
    go_enter Try.func30, Try.ntmps30
    go_wp2_with (first | (go_at_call 49; refine (s_formatValid_yes _ _ _ hv).mono ?_; rintro e w1 ⟨rfl, hb⟩; have hx := hx.below hb; (have hf := hx.2; simp only [List.forall_mem_cons, List.not_mem_nil, false_imp_iff, implies_true, and_true] at hf); clear hb) | (go_at_call 57; refine (s_storedFits_yes _ _ _ _ h).mono ?_; rintro e w1 ⟨rfl, hb⟩; have hx := hx.below hb; (have hf := hx.2; simp only [List.forall_mem_cons, List.not_mem_nil, false_imp_iff, implies_true, and_true] at hf); clear hb))
    (have hn : Nonempty (Held w [(w.heap.size, 0, .int .i64 W), (w.heap.size, 1, .int .i64 P), (w.heap.size + 1, 0, .int .i64 V), (w.heap.size + 1, 1, .int .i64 Q)]) := ⟨⟨_, hx⟩⟩; have hl0 : ∀ x : Held w [(w.heap.size, 0, .int .i64 W), (w.heap.size, 1, .int .i64 P), (w.heap.size + 1, 0, .int .i64 V), (w.heap.size + 1, 1, .int .i64 Q)], x.it.cell? ⟨w.heap.size, 0, none⟩ = some (.int .i64 W) := fun x => x.at0; have hl1 : ∀ x : Held w [(w.heap.size, 0, .int .i64 W), (w.heap.size, 1, .int .i64 P), (w.heap.size + 1, 0, .int .i64 V), (w.heap.size + 1, 1, .int .i64 Q)], x.it.cell? ⟨w.heap.size, 1, none⟩ = some (.int .i64 P) := fun x => x.at1; have hl2 : ∀ x : Held w [(w.heap.size, 0, .int .i64 W), (w.heap.size, 1, .int .i64 P), (w.heap.size + 1, 0, .int .i64 V), (w.heap.size + 1, 1, .int .i64 Q)], x.it.cell? ⟨w.heap.size + 1, 0, none⟩ = some (.int .i64 V) := fun x => x.at2; have hl3 : ∀ x : Held w [(w.heap.size, 0, .int .i64 W), (w.heap.size, 1, .int .i64 P), (w.heap.size + 1, 0, .int .i64 V), (w.heap.size + 1, 1, .int .i64 Q)], x.it.cell? ⟨w.heap.size + 1, 1, none⟩ = some (.int .i64 Q) := fun x => x.at3; refine wp_region_hold [(w.heap.size, 0, .int .i64 W), (w.heap.size, 1, .int .i64 P), (w.heap.size + 1, 0, .int .i64 V), (w.heap.size + 1, 1, .int .i64 Q)] hx (by kernel_rfl) (by kernel_rfl) ?_; (repeat (go_big_quiet_step ((first | (go_at_call 72; first | exact Calls.held (l1Round_any _ _ _ (by omega) (by omega)) | exact Calls.held_same (l1Round_any _ _ _ (by omega) (by omega))) | (go_at_call 71; first | exact Calls.held (l4Cut_any _ _ _ _ hv) | exact Calls.held_same (l4Cut_any _ _ _ _ hv)))))); refine wpQuiet_nil ?_; intro _ hx; clear hn hl0 hl1 hl2 hl3)
    go_wp2
    go_ret2
    exact ⟨by rw [HT.out]; try rfl, hx.1⟩

set_option maxHeartbeats 400000 in
theorem lawFormat_any (W P : Int) (w : World) : Calls Try.prog 28 #[.agg #[.int .i64 W, .int .i64 P]] w fun e w' => e = .returned (.agg #[.int .i64 W, .int .i64 P]) ∧ Below w.heap.size w w' := by
  go_enter Try.func28, Try.ntmps28
  go_wp2
  (try simp only [Exit.inBlock, Exit.then])
  refine bodyPost_ret (v := .agg #[.int .i64 W, .int .i64 P]) (by simp [results, Try.results28, go_sem]) rfl ⟨rfl, by go_grown⟩

end Go.Proofs.Ytjbaegbdacpdnaa
