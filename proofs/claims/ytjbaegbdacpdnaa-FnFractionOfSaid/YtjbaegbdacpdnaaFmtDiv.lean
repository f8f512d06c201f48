/-
  The walks of quotients of stored numbers.
-/
import Derived.Test.YtjbaegbdacpdnaaFmtMul
import Derived.Test.YtjbaegbdacpdnaaMathC
namespace Go.Proofs.Ytjbaegbdacpdnaa
open Go.RowKit

theorem divOf_round (P a b : Int) (hP : 0 ≤ P ∧ P ≤ 16) (ha : -268435456 ≤ a ∧ a ≤ 268435456) (hb : -268435456 ≤ b ∧ b ≤ 268435456) :
    (b < 0 → Fx.roundDiv (-a * 2 ^ P.toNat) (-b) = Fx.divOf P a b) ∧ (0 < b → Fx.roundDiv (a * 2 ^ P.toNat) b = Fx.divOf P a b) := by
  have hq := Fx.pow_16 (k := P.toNat) (by omega)
  have hm := Fx.mul_bounds ha (show 0 ≤ (2 : Int) ^ P.toNat ∧ (2 : Int) ^ P.toNat ≤ 65536 by omega)
  have hn : -a * 2 ^ P.toNat = -(a * 2 ^ P.toNat) := Int.neg_mul _ _
  unfold Fx.divOf
  constructor
  · intro h
    rw [if_pos h, Fx.roundDiv_in _ _ (by unfold Fx.Work; omega) (by omega) (by omega)]
  · intro h
    rw [if_neg (by omega), Fx.roundDiv_in _ _ (by unfold Fx.Work; omega) (by omega) (by omega)]

set_option maxHeartbeats 1000000 in
theorem div1_any (q : Nat) (P a b : Int) (w : World) (hq : w.cell? ⟨q, 1, none⟩ = some (.int .i64 P)) (hP : 0 ≤ P ∧ P ≤ 16) (ha : -268435456 ≤ a ∧ a ≤ 268435456) (hb : -268435456 ≤ b ∧ b ≤ 268435456) (h0 : b ≠ 0) :
    Calls Try.prog 83 #[.int .i64 a, .int .i64 b, .pointer (some ⟨q, 0, none⟩)] w fun e w' => e = .returned (.int .i64 (Fx.divOf P a b)) ∧ w = w' := by
  have hp := Fx.pow_16 (k := P.toNat) (by omega)
  have hm := Fx.mul_bounds ha (show 0 ≤ (2 : Int) ^ P.toNat ∧ (2 : Int) ^ P.toNat ≤ 65536 by omega)
  have hn : -a * 2 ^ P.toNat = -(a * 2 ^ P.toNat) := Int.neg_mul _ _
  obtain ⟨e1, e2⟩ := divOf_round P a b hP ha hb
  by_cases h : b < 0
  · have HE := Lib.hid (show Fx.roundDiv (-(a * 2 ^ P.toNat)) (-b) = Fx.divOf P a b by rw [← hn]; exact e1 h)
    clear e1 e2
    go_enter Try.func83, Try.ntmps83
    go_wp2_with (go_at_call 40; refine (roundDiv_any _ _ _).mono ?_; rintro e w' ⟨rfl, rfl⟩)
    go_ret
    exact ⟨ret_i (by rw [← HE.out]; try rfl), rfl⟩
  · have h' : 0 < b := by omega
    have HE := Lib.hid (e2 h')
    clear e1 e2 hn
    go_enter Try.func83, Try.ntmps83
    go_wp2_with (go_at_call 40; refine (roundDiv_any _ _ _).mono ?_; rintro e w' ⟨rfl, rfl⟩)
    go_ret
    exact ⟨ret_i (by rw [← HE.out]; try rfl), rfl⟩

set_option maxHeartbeats 1000000 in
theorem join_div_yes (q : Nat) (W P a b : Int) (w : World) (hq : q < w.heap.size ∧ w.cell? ⟨q, 1, none⟩ = some (.int .i64 P)) (h0 : b ≠ 0)
    (ha : ((1 ≤ W ∧ W ≤ 12) ∧ 0 ≤ P ∧ P ≤ 16) ∧ -2 ^ (W + P).toNat ≤ a ∧ a ≤ 2 ^ (W + P).toNat - 1) (hb : ((1 ≤ W ∧ W ≤ 12) ∧ 0 ≤ P ∧ P ≤ 16) ∧ -2 ^ (W + P).toNat ≤ b ∧ b ≤ 2 ^ (W + P).toNat - 1) :
    Calls Try.prog 77 #[.agg #[.int .i64 W, .int .i64 P, .int .i64 a], .int .i64 b, .func (Fn.func 83) #[] #[.pointer (some ⟨q, 0, none⟩)]] w
      fun e w' => e = .returned (.tuple #[.int .i64 (Fx.cut W P (Fx.divOf P a b)), .bool (Fx.cut W P (Fx.divOf P a b) == Fx.divOf P a b)]) ∧ Below w.heap.size w w' := by
  have hx := Hold.more (hold_three w (.int .i64 W) (.int .i64 P) (.int .i64 a) 61) hq
  have hp := Fx.pow_28 (k := (W + P).toNat) (by omega)
  have hA : -268435456 ≤ a ∧ a ≤ 268435456 := by omega
  have hB : -268435456 ≤ b ∧ b ≤ 268435456 := by omega
  (have hf := hx.2; simp only [List.forall_mem_cons, List.not_mem_nil, false_imp_iff, implies_true, and_true] at hf)
  go_enter Try.func77, Try.ntmps77
  go_wp2_with fail
  (go_at_call 50; refine (storedFits_yes W P a _ ha).mono ?_; rintro e w1 ⟨rfl, hb⟩; have hx := hx.below hb; (have hf := hx.2; simp only [List.forall_mem_cons, List.not_mem_nil, false_imp_iff, implies_true, and_true] at hf); clear hb)
  go_wp2_with fail
  (go_at_call 50; refine (storedFits_yes W P b _ hb).mono ?_; rintro e w1 ⟨rfl, hb⟩; have hx := hx.below hb; (have hf := hx.2; simp only [List.forall_mem_cons, List.not_mem_nil, false_imp_iff, implies_true, and_true] at hf); clear hb)
  go_wp2_with fail
  (have hn : Nonempty (Held w [(q, 1, .int .i64 P), (w.heap.size, 0, .int .i64 W), (w.heap.size, 1, .int .i64 P), (w.heap.size, 2, .int .i64 a)]) := ⟨⟨_, hx⟩⟩; have hl0 : ∀ x : Held w [(q, 1, .int .i64 P), (w.heap.size, 0, .int .i64 W), (w.heap.size, 1, .int .i64 P), (w.heap.size, 2, .int .i64 a)], x.it.cell? ⟨q, 1, none⟩ = some (.int .i64 P) := fun x => x.at0; have hl1 : ∀ x : Held w [(q, 1, .int .i64 P), (w.heap.size, 0, .int .i64 W), (w.heap.size, 1, .int .i64 P), (w.heap.size, 2, .int .i64 a)], x.it.cell? ⟨w.heap.size, 0, none⟩ = some (.int .i64 W) := fun x => x.at1; have hl2 : ∀ x : Held w [(q, 1, .int .i64 P), (w.heap.size, 0, .int .i64 W), (w.heap.size, 1, .int .i64 P), (w.heap.size, 2, .int .i64 a)], x.it.cell? ⟨w.heap.size, 1, none⟩ = some (.int .i64 P) := fun x => x.at2; have hl3 : ∀ x : Held w [(q, 1, .int .i64 P), (w.heap.size, 0, .int .i64 W), (w.heap.size, 1, .int .i64 P), (w.heap.size, 2, .int .i64 a)], x.it.cell? ⟨w.heap.size, 2, none⟩ = some (.int .i64 a) := fun x => x.at3; refine wp_region_hold [(q, 1, .int .i64 P), (w.heap.size, 0, .int .i64 W), (w.heap.size, 1, .int .i64 P), (w.heap.size, 2, .int .i64 a)] hx (by kernel_rfl) (by kernel_rfl) ?_; (repeat (go_big_quiet_step ((first | (go_at_call 83; first | exact Calls.held (div1_any q P _ _ _ (hl0 _) ha.1.2 hA hB h0) | exact Calls.held_same (div1_any q P _ _ _ (hl0 _) ha.1.2 hA hB h0)) | (go_at_call 75; first | exact Calls.held (cutStored_yes _ _ _ _ ha.1) | exact Calls.held_same (cutStored_yes _ _ _ _ ha.1)))))); refine wpQuiet_nil ?_; intro _ hx; clear hn hl0 hl1 hl2 hl3)
  go_wp2
  go_ret2
  exact ⟨rfl, hx.1⟩

set_option maxHeartbeats 1000000 in
theorem divStored_yes (W P a b : Int) (w : World) (h0 : b ≠ 0)
    (ha : ((1 ≤ W ∧ W ≤ 12) ∧ 0 ≤ P ∧ P ≤ 16) ∧ -2 ^ (W + P).toNat ≤ a ∧ a ≤ 2 ^ (W + P).toNat - 1) (hb : ((1 ≤ W ∧ W ≤ 12) ∧ 0 ≤ P ∧ P ≤ 16) ∧ -2 ^ (W + P).toNat ≤ b ∧ b ≤ 2 ^ (W + P).toNat - 1) :
    Calls Try.prog 42 #[.agg #[.int .i64 W, .int .i64 P], .int .i64 a, .int .i64 b] w
      fun e w' => e = .returned (.tuple #[.int .i64 (Fx.cut W P (Fx.divOf P a b)), .bool (Fx.cut W P (Fx.divOf P a b) == Fx.divOf P a b)]) ∧ Below w.heap.size w w' := by
  have hx := hold_two w (.int .i64 W) (.int .i64 P) 32
  have hz : (b == 0) = false := by simpa using h0
  (have hf := hx.2; simp only [List.forall_mem_cons, List.not_mem_nil, false_imp_iff, implies_true, and_true] at hf)
  go_enter Try.func42, Try.ntmps42
  go_wp2_with fail
  (go_at_call 77; refine (join_div_yes w.heap.size W P a b _ hf.2 h0 ha hb).mono ?_; rintro e w1 ⟨rfl, hb⟩; have hx := hx.below hb; (have hf := hx.2; simp only [List.forall_mem_cons, List.not_mem_nil, false_imp_iff, implies_true, and_true] at hf); clear hb)
  go_wp2_with fail
  go_ret2
  exact ⟨rfl, hx.1⟩

set_option maxHeartbeats 1000000 in
theorem divStored_no (W P a b : Int) (w : World)
    (h : ¬(b ≠ 0 ∧ ((1 ≤ W ∧ W ≤ 12) ∧ 0 ≤ P ∧ P ≤ 16) ∧ (-2 ^ (W + P).toNat ≤ a ∧ a ≤ 2 ^ (W + P).toNat - 1) ∧ -2 ^ (W + P).toNat ≤ b ∧ b ≤ 2 ^ (W + P).toNat - 1)) :
    Calls Try.prog 42 #[.agg #[.int .i64 W, .int .i64 P], .int .i64 a, .int .i64 b] w
      fun e w' => e = .returned (.tuple #[.int .i64 0, .bool false]) ∧ Below w.heap.size w w' := by
  have hx := hold_two w (.int .i64 W) (.int .i64 P) 32
  by_cases h0 : b = 0
  · clear h
    subst h0
    (have hf := hx.2; simp only [List.forall_mem_cons, List.not_mem_nil, false_imp_iff, implies_true, and_true] at hf)
    go_enter Try.func42, Try.ntmps42
    go_wp2_with fail
    go_ret2
    exact ⟨rfl, hx.1⟩
  · have H := Lib.hid (show ¬(((1 ≤ W ∧ W ≤ 12) ∧ 0 ≤ P ∧ P ≤ 16) ∧ (-2 ^ (W + P).toNat ≤ a ∧ a ≤ 2 ^ (W + P).toNat - 1) ∧ -2 ^ (W + P).toNat ≤ b ∧ b ≤ 2 ^ (W + P).toNat - 1) from fun hh => h ⟨h0, hh⟩)
    have hz : (b == 0) = false := by simpa using h0
    clear h h0
    (have hf := hx.2; simp only [List.forall_mem_cons, List.not_mem_nil, false_imp_iff, implies_true, and_true] at hf)
    go_enter Try.func42, Try.ntmps42
    go_wp2_with fail
    (go_at_call 77; refine (join_no W P a b _ H.out _).mono ?_; rintro e w1 ⟨rfl, hb⟩; have hx := hx.below hb; (have hf := hx.2; simp only [List.forall_mem_cons, List.not_mem_nil, false_imp_iff, implies_true, and_true] at hf); clear hb)
    go_wp2_with fail
    go_ret2
    exact ⟨rfl, hx.1⟩

set_option maxHeartbeats 1000000 in
theorem s_divStored_yes (W P a b : Int) (w : World) (h0 : b ≠ 0)
    (ha : ((1 ≤ W ∧ W ≤ 12) ∧ 0 ≤ P ∧ P ≤ 16) ∧ -2 ^ (W + P).toNat ≤ a ∧ a ≤ 2 ^ (W + P).toNat - 1) (hb : ((1 ≤ W ∧ W ≤ 12) ∧ 0 ≤ P ∧ P ≤ 16) ∧ -2 ^ (W + P).toNat ≤ b ∧ b ≤ 2 ^ (W + P).toNat - 1) :
    Calls Try.prog 41 #[.agg #[.int .i64 W, .int .i64 P], .int .i64 a, .int .i64 b] w
      fun e w' => e = .returned (.tuple #[.int .i64 (Fx.cut W P (Fx.divOf P a b)), .bool (Fx.cut W P (Fx.divOf P a b) == Fx.divOf P a b)]) ∧ Below w.heap.size w w' := by
  have hx := hold_two w (.int .i64 W) (.int .i64 P) 32
  have hz : (b == 0) = false := by simpa using h0
  have hp := Fx.pow_28 (k := (W + P).toNat) (by omega)
  have hA : -268435456 ≤ a ∧ a ≤ 268435456 := by omega
  have hB : -268435456 ≤ b ∧ b ≤ 268435456 := by omega
  have hq := Fx.pow_16 (k := P.toNat) (by omega)
  have hm := Fx.mul_bounds hA (show 0 ≤ (2 : Int) ^ P.toNat ∧ (2 : Int) ^ P.toNat ≤ 65536 by omega)
  have hn : -a * 2 ^ P.toNat = -(a * 2 ^ P.toNat) := Int.neg_mul _ _
  by_cases h : b < 0
  · have HT := Lib.hid (show Fx.rnd (-a * 2 ^ P.toNat) (-b) = Fx.divOf P a b from (if_pos h).symm)
    have hw1 : IntKind.i64.wrap (-a * 2 ^ P.toNat) = -a * 2 ^ P.toNat := IntWalk.i64_in _ (by omega)
    have hr : (-2305843009213693952 ≤ -a * 2 ^ P.toNat ∧ -a * 2 ^ P.toNat ≤ 2305843009213693952) := by omega
    have HN := Lib.hid hn
    clear hn
    (have hf := hx.2; simp only [List.forall_mem_cons, List.not_mem_nil, false_imp_iff, implies_true, and_true] at hf)
    go_enter Try.func41, Try.ntmps41
    go_wp2_with (go_at_call 76; refine (l6Both_yes W P a b _ ⟨ha.1, ha.2, hb.2⟩).mono ?_; rintro e w1 ⟨rfl, hb⟩; have hx := hx.below hb; (have hf := hx.2; simp only [List.forall_mem_cons, List.not_mem_nil, false_imp_iff, implies_true, and_true] at hf); clear hb)
    (have hn : Nonempty (Held w [(w.heap.size, 0, .int .i64 W), (w.heap.size, 1, .int .i64 P)]) := ⟨⟨_, hx⟩⟩; have hl0 : ∀ x : Held w [(w.heap.size, 0, .int .i64 W), (w.heap.size, 1, .int .i64 P)], x.it.cell? ⟨w.heap.size, 0, none⟩ = some (.int .i64 W) := fun x => x.at0; have hl1 : ∀ x : Held w [(w.heap.size, 0, .int .i64 W), (w.heap.size, 1, .int .i64 P)], x.it.cell? ⟨w.heap.size, 1, none⟩ = some (.int .i64 P) := fun x => x.at1; refine wp_region_hold [(w.heap.size, 0, .int .i64 W), (w.heap.size, 1, .int .i64 P)] hx (by kernel_rfl) (by kernel_rfl) ?_; (repeat (go_big_quiet_step ((first | (go_at_call 72; first | exact Calls.held (l1Round_any _ _ _ hr (by omega)) | exact Calls.held_same (l1Round_any _ _ _ hr (by omega))) | (go_at_call 71; first | exact Calls.held (l4Cut_any _ _ _ _ ha.1) | exact Calls.held_same (l4Cut_any _ _ _ _ ha.1)))))); refine wpQuiet_nil ?_; intro _ hx; clear hn hl0 hl1)
    go_wp2
    go_ret2
    exact ⟨by rw [← HT.out]; try rfl, hx.1⟩
  · have HT := Lib.hid (show Fx.rnd (a * 2 ^ P.toNat) b = Fx.divOf P a b from (if_neg h).symm)
    have hw1 : IntKind.i64.wrap (a * 2 ^ P.toNat) = a * 2 ^ P.toNat := IntWalk.i64_in _ (by omega)
    clear hn
    (have hf := hx.2; simp only [List.forall_mem_cons, List.not_mem_nil, false_imp_iff, implies_true, and_true] at hf)
    go_enter Try.func41, Try.ntmps41
    go_wp2_with (go_at_call 76; refine (l6Both_yes W P a b _ ⟨ha.1, ha.2, hb.2⟩).mono ?_; rintro e w1 ⟨rfl, hb⟩; have hx := hx.below hb; (have hf := hx.2; simp only [List.forall_mem_cons, List.not_mem_nil, false_imp_iff, implies_true, and_true] at hf); clear hb)
    (have hn : Nonempty (Held w [(w.heap.size, 0, .int .i64 W), (w.heap.size, 1, .int .i64 P)]) := ⟨⟨_, hx⟩⟩; have hl0 : ∀ x : Held w [(w.heap.size, 0, .int .i64 W), (w.heap.size, 1, .int .i64 P)], x.it.cell? ⟨w.heap.size, 0, none⟩ = some (.int .i64 W) := fun x => x.at0; have hl1 : ∀ x : Held w [(w.heap.size, 0, .int .i64 W), (w.heap.size, 1, .int .i64 P)], x.it.cell? ⟨w.heap.size, 1, none⟩ = some (.int .i64 P) := fun x => x.at1; refine wp_region_hold [(w.heap.size, 0, .int .i64 W), (w.heap.size, 1, .int .i64 P)] hx (by kernel_rfl) (by kernel_rfl) ?_; (repeat (go_big_quiet_step ((first | (go_at_call 72; first | exact Calls.held (l1Round_any _ _ _ (by omega) (by omega)) | exact Calls.held_same (l1Round_any _ _ _ (by omega) (by omega))) | (go_at_call 71; first | exact Calls.held (l4Cut_any _ _ _ _ ha.1) | exact Calls.held_same (l4Cut_any _ _ _ _ ha.1)))))); refine wpQuiet_nil ?_; intro _ hx; clear hn hl0 hl1)
    go_wp2
    go_ret2
    exact ⟨by rw [← HT.out]; try rfl, hx.1⟩

set_option maxHeartbeats 1000000 in
theorem s_divStored_no (W P a b : Int) (w : World)
    (h : ¬(b ≠ 0 ∧ ((1 ≤ W ∧ W ≤ 12) ∧ 0 ≤ P ∧ P ≤ 16) ∧ (-2 ^ (W + P).toNat ≤ a ∧ a ≤ 2 ^ (W + P).toNat - 1) ∧ -2 ^ (W + P).toNat ≤ b ∧ b ≤ 2 ^ (W + P).toNat - 1)) :
    Calls Try.prog 41 #[.agg #[.int .i64 W, .int .i64 P], .int .i64 a, .int .i64 b] w
      fun e w' => e = .returned (.tuple #[.int .i64 0, .bool false]) ∧ Below w.heap.size w w' := by
  have hx := hold_two w (.int .i64 W) (.int .i64 P) 32
  by_cases hs : ((1 ≤ W ∧ W ≤ 12) ∧ 0 ≤ P ∧ P ≤ 16) ∧ (-2 ^ (W + P).toNat ≤ a ∧ a ≤ 2 ^ (W + P).toNat - 1) ∧ -2 ^ (W + P).toNat ≤ b ∧ b ≤ 2 ^ (W + P).toNat - 1
  · have hb : b = 0 := Classical.byContradiction fun hn => h ⟨hn, hs⟩
    have H := Lib.hid hs
    clear h hs
    subst hb
    (have hf := hx.2; simp only [List.forall_mem_cons, List.not_mem_nil, false_imp_iff, implies_true, and_true] at hf)
    go_enter Try.func41, Try.ntmps41
    go_wp2_with (go_at_call 76; refine (l6Both_yes W P a 0 _ H.out).mono ?_; rintro e w1 ⟨rfl, hb⟩; have hx := hx.below hb; (have hf := hx.2; simp only [List.forall_mem_cons, List.not_mem_nil, false_imp_iff, implies_true, and_true] at hf); clear hb)
    go_ret2
    exact ⟨rfl, hx.1⟩
  · have H := Lib.hid hs
    clear h hs
    (have hf := hx.2; simp only [List.forall_mem_cons, List.not_mem_nil, false_imp_iff, implies_true, and_true] at hf)
    go_enter Try.func41, Try.ntmps41
    go_wp2_with (go_at_call 76; refine (l6Both_no W P a b _ H.out).mono ?_; rintro e w1 ⟨rfl, hb⟩; have hx := hx.below hb; (have hf := hx.2; simp only [List.forall_mem_cons, List.not_mem_nil, false_imp_iff, implies_true, and_true] at hf); clear hb)
    go_ret2
    exact ⟨rfl, hx.1⟩

end Go.Proofs.Ytjbaegbdacpdnaa
