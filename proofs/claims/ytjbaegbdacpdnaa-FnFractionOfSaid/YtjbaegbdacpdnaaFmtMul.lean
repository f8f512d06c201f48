/-
  The walks of products and quotients of stored numbers.
-/
import Derived.Test.YtjbaegbdacpdnaaFmtTo
namespace Go.Proofs.Ytjbaegbdacpdnaa
open Go.RowKit

theorem Hold.more {w W : World} {L : List (Nat × Nat × Value)} {q i : Nat} {v : Value} (h : Hold w L W) (hq : q < w.heap.size ∧ w.cell? ⟨q, i, none⟩ = some v) : Hold w ((q, i, v) :: L) W :=
  ⟨h.1, by
    intro x hx
    rcases List.mem_cons.mp hx with rfl | hx
    · exact ⟨Nat.lt_of_lt_of_le hq.1 h.1.size, by rw [h.1.cell (p := ⟨q, i, none⟩) hq.1]; exact hq.2⟩
    · exact h.2 x hx⟩

theorem mul1_any (q : Nat) (P a b : Int) (w : World) (hq : w.cell? ⟨q, 1, none⟩ = some (.int .i64 P)) (hab : -(268435456 * 268435456) ≤ a * b ∧ a * b ≤ 268435456 * 268435456) :
    Calls Try.prog 78 #[.int .i64 a, .int .i64 b, .pointer (some ⟨q, 0, none⟩)] w fun e w' => e = .returned (.int .i64 (Fx.roundShift (a * b) P)) ∧ w = w' := by
  go_enter Try.func78, Try.ntmps78
  go_wp2_with (go_at_call 44; refine (roundShift_any _ _ _).mono ?_; rintro e w' ⟨rfl, rfl⟩)
  go_ret
  exact ⟨rfl, rfl⟩

set_option maxHeartbeats 1000000 in
theorem join_mul_yes (q : Nat) (W P a b : Int) (w : World) (hq : q < w.heap.size ∧ w.cell? ⟨q, 1, none⟩ = some (.int .i64 P))
    (ha : ((1 ≤ W ∧ W ≤ 12) ∧ 0 ≤ P ∧ P ≤ 16) ∧ -2 ^ (W + P).toNat ≤ a ∧ a ≤ 2 ^ (W + P).toNat - 1) (hb : ((1 ≤ W ∧ W ≤ 12) ∧ 0 ≤ P ∧ P ≤ 16) ∧ -2 ^ (W + P).toNat ≤ b ∧ b ≤ 2 ^ (W + P).toNat - 1) :
    Calls Try.prog 77 #[.agg #[.int .i64 W, .int .i64 P, .int .i64 a], .int .i64 b, .func (Fn.func 78) #[] #[.pointer (some ⟨q, 0, none⟩)]] w
      fun e w' => e = .returned (.tuple #[.int .i64 (Fx.cut W P (Fx.mulOf P a b)), .bool (Fx.cut W P (Fx.mulOf P a b) == Fx.mulOf P a b)]) ∧ Below w.heap.size w w' := by
  have hx := Hold.more (hold_three w (.int .i64 W) (.int .i64 P) (.int .i64 a) 61) hq
  have hp := Fx.pow_28 (k := (W + P).toNat) (by omega)
  have hab := Fx.mul_bounds' (a := a) (b := b) (A := 268435456) (B := 268435456) (by omega) (by omega)
  have HT := Lib.hid (show Fx.roundShift (a * b) P = Fx.mulOf P a b from Fx.roundShift_in _ _ (by unfold Fx.Work; omega) (by omega) (by omega))
  (have hf := hx.2; simp only [List.forall_mem_cons, List.not_mem_nil, false_imp_iff, implies_true, and_true] at hf)
  go_enter Try.func77, Try.ntmps77
  go_wp2_with fail
  (go_at_call 50; refine (storedFits_yes W P a _ ha).mono ?_; rintro e w1 ⟨rfl, hb⟩; have hx := hx.below hb; (have hf := hx.2; simp only [List.forall_mem_cons, List.not_mem_nil, false_imp_iff, implies_true, and_true] at hf); clear hb)
  go_wp2_with fail
  (go_at_call 50; refine (storedFits_yes W P b _ hb).mono ?_; rintro e w1 ⟨rfl, hb⟩; have hx := hx.below hb; (have hf := hx.2; simp only [List.forall_mem_cons, List.not_mem_nil, false_imp_iff, implies_true, and_true] at hf); clear hb)
  go_wp2_with fail
  (have hn : Nonempty (Held w [(q, 1, .int .i64 P), (w.heap.size, 0, .int .i64 W), (w.heap.size, 1, .int .i64 P), (w.heap.size, 2, .int .i64 a)]) := ⟨⟨_, hx⟩⟩; have hl0 : ∀ x : Held w [(q, 1, .int .i64 P), (w.heap.size, 0, .int .i64 W), (w.heap.size, 1, .int .i64 P), (w.heap.size, 2, .int .i64 a)], x.it.cell? ⟨q, 1, none⟩ = some (.int .i64 P) := fun x => x.at0; have hl1 : ∀ x : Held w [(q, 1, .int .i64 P), (w.heap.size, 0, .int .i64 W), (w.heap.size, 1, .int .i64 P), (w.heap.size, 2, .int .i64 a)], x.it.cell? ⟨w.heap.size, 0, none⟩ = some (.int .i64 W) := fun x => x.at1; have hl2 : ∀ x : Held w [(q, 1, .int .i64 P), (w.heap.size, 0, .int .i64 W), (w.heap.size, 1, .int .i64 P), (w.heap.size, 2, .int .i64 a)], x.it.cell? ⟨w.heap.size, 1, none⟩ = some (.int .i64 P) := fun x => x.at2; have hl3 : ∀ x : Held w [(q, 1, .int .i64 P), (w.heap.size, 0, .int .i64 W), (w.heap.size, 1, .int .i64 P), (w.heap.size, 2, .int .i64 a)], x.it.cell? ⟨w.heap.size, 2, none⟩ = some (.int .i64 a) := fun x => x.at3; refine wp_region_hold [(q, 1, .int .i64 P), (w.heap.size, 0, .int .i64 W), (w.heap.size, 1, .int .i64 P), (w.heap.size, 2, .int .i64 a)] hx (by kernel_rfl) (by kernel_rfl) ?_; (repeat (go_big_quiet_step ((first | (go_at_call 78; first | exact Calls.held (mul1_any q P _ _ _ (hl0 _) hab) | exact Calls.held_same (mul1_any q P _ _ _ (hl0 _) hab)) | (go_at_call 75; first | exact Calls.held (cutStored_yes _ _ _ _ ha.1) | exact Calls.held_same (cutStored_yes _ _ _ _ ha.1)))))); refine wpQuiet_nil ?_; intro _ hx; clear hn hl0 hl1 hl2 hl3)
  go_wp2
  go_ret2
  exact ⟨by rw [← HT.out]; try rfl, hx.1⟩

set_option maxHeartbeats 1000000 in
theorem join_no (W P a b : Int) (w : World)
    (h : ¬(((1 ≤ W ∧ W ≤ 12) ∧ 0 ≤ P ∧ P ≤ 16) ∧ (-2 ^ (W + P).toNat ≤ a ∧ a ≤ 2 ^ (W + P).toNat - 1) ∧ -2 ^ (W + P).toNat ≤ b ∧ b ≤ 2 ^ (W + P).toNat - 1)) (f : Value) :
    Calls Try.prog 77 #[.agg #[.int .i64 W, .int .i64 P, .int .i64 a], .int .i64 b, f] w
      fun e w' => e = .returned (.tuple #[.int .i64 0, .bool false]) ∧ Below w.heap.size w w' := by
  have hx := hold_three w (.int .i64 W) (.int .i64 P) (.int .i64 a) 61
  (have hf := hx.2; simp only [List.forall_mem_cons, List.not_mem_nil, false_imp_iff, implies_true, and_true] at hf)
  by_cases ha : ((1 ≤ W ∧ W ≤ 12) ∧ 0 ≤ P ∧ P ≤ 16) ∧ -2 ^ (W + P).toNat ≤ a ∧ a ≤ 2 ^ (W + P).toNat - 1
  · have H1 := Lib.hid ha
    have H2 := Lib.hid (show ¬(((1 ≤ W ∧ W ≤ 12) ∧ 0 ≤ P ∧ P ≤ 16) ∧ -2 ^ (W + P).toNat ≤ b ∧ b ≤ 2 ^ (W + P).toNat - 1) from fun hb => h ⟨ha.1, ha.2, hb.2⟩)
    clear h ha
    go_enter Try.func77, Try.ntmps77
    go_wp2_with fail
    (go_at_call 50; refine (storedFits_yes W P a _ H1.out).mono ?_; rintro e w1 ⟨rfl, hb⟩; have hx := hx.below hb; (have hf := hx.2; simp only [List.forall_mem_cons, List.not_mem_nil, false_imp_iff, implies_true, and_true] at hf); clear hb)
    go_wp2_with fail
    (go_at_call 50; refine (storedFits_no W P b _ H2.out).mono ?_; rintro e w1 ⟨rfl, hb⟩; have hx := hx.below hb; (have hf := hx.2; simp only [List.forall_mem_cons, List.not_mem_nil, false_imp_iff, implies_true, and_true] at hf); clear hb)
    go_wp2_with fail
    go_ret2
    exact ⟨rfl, hx.1⟩
  · have H1 := Lib.hid ha
    clear h ha
    go_enter Try.func77, Try.ntmps77
    go_wp2_with fail
    (go_at_call 50; refine (storedFits_no W P a _ H1.out).mono ?_; rintro e w1 ⟨rfl, hb⟩; have hx := hx.below hb; (have hf := hx.2; simp only [List.forall_mem_cons, List.not_mem_nil, false_imp_iff, implies_true, and_true] at hf); clear hb)
    go_wp2_with fail
    go_ret2
    exact ⟨rfl, hx.1⟩

set_option maxHeartbeats 1000000 in
theorem mulStored_yes (W P a b : Int) (w : World)
    (ha : ((1 ≤ W ∧ W ≤ 12) ∧ 0 ≤ P ∧ P ≤ 16) ∧ -2 ^ (W + P).toNat ≤ a ∧ a ≤ 2 ^ (W + P).toNat - 1) (hb : ((1 ≤ W ∧ W ≤ 12) ∧ 0 ≤ P ∧ P ≤ 16) ∧ -2 ^ (W + P).toNat ≤ b ∧ b ≤ 2 ^ (W + P).toNat - 1) :
    Calls Try.prog 33 #[.agg #[.int .i64 W, .int .i64 P], .int .i64 a, .int .i64 b] w
      fun e w' => e = .returned (.tuple #[.int .i64 (Fx.cut W P (Fx.mulOf P a b)), .bool (Fx.cut W P (Fx.mulOf P a b) == Fx.mulOf P a b)]) ∧ Below w.heap.size w w' := by
  have hx := hold_two w (.int .i64 W) (.int .i64 P) 32
  (have hf := hx.2; simp only [List.forall_mem_cons, List.not_mem_nil, false_imp_iff, implies_true, and_true] at hf)
  go_enter Try.func33, Try.ntmps33
  go_wp2_with fail
  (go_at_call 77; refine (join_mul_yes w.heap.size W P a b _ hf.2 ha hb).mono ?_; rintro e w1 ⟨rfl, hb⟩; have hx := hx.below hb; (have hf := hx.2; simp only [List.forall_mem_cons, List.not_mem_nil, false_imp_iff, implies_true, and_true] at hf); clear hb)
  go_wp2_with fail
  go_ret2
  exact ⟨rfl, hx.1⟩

set_option maxHeartbeats 1000000 in
theorem mulStored_no (W P a b : Int) (w : World)
    (h : ¬(((1 ≤ W ∧ W ≤ 12) ∧ 0 ≤ P ∧ P ≤ 16) ∧ (-2 ^ (W + P).toNat ≤ a ∧ a ≤ 2 ^ (W + P).toNat - 1) ∧ -2 ^ (W + P).toNat ≤ b ∧ b ≤ 2 ^ (W + P).toNat - 1)) :
    Calls Try.prog 33 #[.agg #[.int .i64 W, .int .i64 P], .int .i64 a, .int .i64 b] w
      fun e w' => e = .returned (.tuple #[.int .i64 0, .bool false]) ∧ Below w.heap.size w w' := by
  have hx := hold_two w (.int .i64 W) (.int .i64 P) 32
  have H := Lib.hid h
  clear h
  (have hf := hx.2; simp only [List.forall_mem_cons, List.not_mem_nil, false_imp_iff, implies_true, and_true] at hf)
  go_enter Try.func33, Try.ntmps33
  go_wp2_with fail
  (go_at_call 77; refine (join_no W P a b _ H.out _).mono ?_; rintro e w1 ⟨rfl, hb⟩; have hx := hx.below hb; (have hf := hx.2; simp only [List.forall_mem_cons, List.not_mem_nil, false_imp_iff, implies_true, and_true] at hf); clear hb)
  go_wp2_with fail
  go_ret2
  exact ⟨rfl, hx.1⟩

set_option maxHeartbeats 1000000 in
theorem s_mulStored_yes (W P a b : Int) (w : World)
    (ha : ((1 ≤ W ∧ W ≤ 12) ∧ 0 ≤ P ∧ P ≤ 16) ∧ -2 ^ (W + P).toNat ≤ a ∧ a ≤ 2 ^ (W + P).toNat - 1) (hb : ((1 ≤ W ∧ W ≤ 12) ∧ 0 ≤ P ∧ P ≤ 16) ∧ -2 ^ (W + P).toNat ≤ b ∧ b ≤ 2 ^ (W + P).toNat - 1) :
    Calls Try.prog 32 #[.agg #[.int .i64 W, .int .i64 P], .int .i64 a, .int .i64 b] w
      fun e w' => e = .returned (.tuple #[.int .i64 (Fx.cut W P (Fx.mulOf P a b)), .bool (Fx.cut W P (Fx.mulOf P a b) == Fx.mulOf P a b)]) ∧ Below w.heap.size w w' := by
  have hx := hold_two w (.int .i64 W) (.int .i64 P) 32
  have hp := Fx.pow_28 (k := (W + P).toNat) (by omega)
  have hq := Fx.pow_16 (k := P.toNat) (by omega)
  have hab := Fx.mul_bounds' (a := a) (b := b) (A := 268435456) (B := 268435456) (by omega) (by omega)
  have HT := Lib.hid (show Fx.rnd (a * b) (2 ^ P.toNat) = Fx.mulOf P a b from rfl)
  have hw1 : IntKind.i64.wrap (a * b) = a * b := IntWalk.i64_in _ (by omega)
  have hw2 : IntKind.i64.wrap (1 * 2 ^ P.toNat) = 2 ^ P.toNat := by rw [Int.one_mul]; exact IntWalk.i64_in _ (by omega)
  have hw3 : IntKind.i64.wrap (2 ^ P.toNat) = 2 ^ P.toNat := IntWalk.i64_in _ (by omega)
  (have hf := hx.2; simp only [List.forall_mem_cons, List.not_mem_nil, false_imp_iff, implies_true, and_true] at hf)
  go_enter Try.func32, Try.ntmps32
  go_wp2_with (go_at_call 76; refine (l6Both_yes W P a b _ ⟨ha.1, ha.2, hb.2⟩).mono ?_; rintro e w1 ⟨rfl, hb⟩; have hx := hx.below hb; (have hf := hx.2; simp only [List.forall_mem_cons, List.not_mem_nil, false_imp_iff, implies_true, and_true] at hf); clear hb)
  (have hn : Nonempty (Held w [(w.heap.size, 0, .int .i64 W), (w.heap.size, 1, .int .i64 P)]) := ⟨⟨_, hx⟩⟩; have hl0 : ∀ x : Held w [(w.heap.size, 0, .int .i64 W), (w.heap.size, 1, .int .i64 P)], x.it.cell? ⟨w.heap.size, 0, none⟩ = some (.int .i64 W) := fun x => x.at0; have hl1 : ∀ x : Held w [(w.heap.size, 0, .int .i64 W), (w.heap.size, 1, .int .i64 P)], x.it.cell? ⟨w.heap.size, 1, none⟩ = some (.int .i64 P) := fun x => x.at1; refine wp_region_hold [(w.heap.size, 0, .int .i64 W), (w.heap.size, 1, .int .i64 P)] hx (by kernel_rfl) (by kernel_rfl) ?_; (repeat (go_big_quiet_step ((first | (go_at_call 72; first | exact Calls.held (l1Round_any _ _ _ (by omega) (by omega)) | exact Calls.held_same (l1Round_any _ _ _ (by omega) (by omega))) | (go_at_call 71; first | exact Calls.held (l4Cut_any _ _ _ _ ha.1) | exact Calls.held_same (l4Cut_any _ _ _ _ ha.1)))))); refine wpQuiet_nil ?_; intro _ hx; clear hn hl0 hl1)
  go_wp2
  go_ret2
  exact ⟨by rw [← HT.out]; try rfl, hx.1⟩

set_option maxHeartbeats 1000000 in
theorem s_mulStored_no (W P a b : Int) (w : World)
    (h : ¬(((1 ≤ W ∧ W ≤ 12) ∧ 0 ≤ P ∧ P ≤ 16) ∧ (-2 ^ (W + P).toNat ≤ a ∧ a ≤ 2 ^ (W + P).toNat - 1) ∧ -2 ^ (W + P).toNat ≤ b ∧ b ≤ 2 ^ (W + P).toNat - 1)) :
    Calls Try.prog 32 #[.agg #[.int .i64 W, .int .i64 P], .int .i64 a, .int .i64 b] w
      fun e w' => e = .returned (.tuple #[.int .i64 0, .bool false]) ∧ Below w.heap.size w w' := by
  have hx := hold_two w (.int .i64 W) (.int .i64 P) 32
  have H := Lib.hid h
  clear h
  (have hf := hx.2; simp only [List.forall_mem_cons, List.not_mem_nil, false_imp_iff, implies_true, and_true] at hf)
  go_enter Try.func32, Try.ntmps32
  go_wp2_with (go_at_call 76; refine (l6Both_no W P a b _ H.out).mono ?_; rintro e w1 ⟨rfl, hb⟩; have hx := hx.below hb; (have hf := hx.2; simp only [List.forall_mem_cons, List.not_mem_nil, false_imp_iff, implies_true, and_true] at hf); clear hb)
  go_ret2
  exact ⟨rfl, hx.1⟩

end Go.Proofs.Ytjbaegbdacpdnaa
