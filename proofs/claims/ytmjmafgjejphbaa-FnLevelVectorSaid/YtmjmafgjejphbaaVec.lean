/-
  The walks of vectors: their bounds, and one step of a rotation.
-/
import Derived.Test.YtmjmafgjejphbaaBoxes
import Derived.Test.YtmjmafgjejphbaaSpanDiv
import Derived.Test.YtmjmafgjejphbaaMathV
namespace Go.Proofs.Ytmjmafgjejphbaa
open Go.RowKit

theorem signed_pos (n : Int) (w : World) (h : -9223372036854775807 ≤ n ∧ n ≤ 9223372036854775807) :
    Calls Try.prog 102 #[.int .i64 n, .int .i64 0] w fun e w' => e = .returned (.int .i64 n) ∧ w = w' := by
  have hx := xor_zero n (by omega)
  go_enter Try.func102, Try.ntmps102
  go_wp2
  go_ret
  exact ⟨rfl, rfl⟩
theorem signed_neg (n : Int) (w : World) (h : -9223372036854775807 ≤ n ∧ n ≤ 9223372036854775807) :
    Calls Try.prog 102 #[.int .i64 n, .int .i64 (-1)] w fun e w' => e = .returned (.int .i64 (-n)) ∧ w = w' := by
  have hx := xor_neg n (by omega)
  have hw : IntKind.i64.wrap (-n - 1 - -1) = -n := by rw [show -n - 1 - -1 = -n by omega]; exact IntWalk.i64_in _ (by omega)
  go_enter Try.func102, Try.ntmps102
  go_wp2
  go_ret
  exact ⟨ret_i (by first | rfl | omega), rfl⟩

theorem vwithin_yes (X Y : Int) (w : World) (h : Fx.VecIn X Y) :
    Calls Try.prog 100 #[.agg #[.int .i64 X, .int .i64 Y], .int .i64 1099511627776] w fun e w' => e = .returned (.bool true) ∧ Below w.heap.size w w' := by
  have h' := h
  unfold Fx.VecIn at h'
  have hx := bx_one w X Y 46
  (have hf := hx.2.2; simp only [List.forall_mem_cons, List.not_mem_nil, false_imp_iff, implies_true, and_true, Bx1] at hf; first | have hd := bx_apart4 hx | have hd := bx_apart3 hx | have hd := bx_apart2 hx | have hd := trivial)
  go_enter Try.func100, Try.ntmps100
  go_wp2_with (first | (go_at_call 88; (with_reducible refine (within_yes _ _ _ (by omega)).mono ?_); rintro e w' ⟨rfl, rfl⟩))
  go_ret
  exact ⟨rfl, hx.1⟩
theorem vwithin_no (X Y : Int) (w : World) (h : ¬ Fx.VecIn X Y) :
    Calls Try.prog 100 #[.agg #[.int .i64 X, .int .i64 Y], .int .i64 1099511627776] w fun e w' => e = .returned (.bool false) ∧ Below w.heap.size w w' := by
  unfold Fx.VecIn at h
  have hx := bx_one w X Y 46
  (have hf := hx.2.2; simp only [List.forall_mem_cons, List.not_mem_nil, false_imp_iff, implies_true, and_true, Bx1] at hf; first | have hd := bx_apart4 hx | have hd := bx_apart3 hx | have hd := bx_apart2 hx | have hd := trivial)
  by_cases h1 : -1099511627776 ≤ X ∧ X ≤ 1099511627776
  · have h2 : Y < -1099511627776 ∨ 1099511627776 < Y := by omega
    clear h
    go_enter Try.func100, Try.ntmps100
    go_wp2_with (first | (go_at_call 88; (with_reducible refine (within_yes _ _ _ (by omega)).mono ?_); rintro e w' ⟨rfl, rfl⟩) | (go_at_call 88; (with_reducible refine (within_no _ _ _ (by omega)).mono ?_); rintro e w' ⟨rfl, rfl⟩))
    go_ret
    exact ⟨rfl, hx.1⟩
  · have h2 : X < -1099511627776 ∨ 1099511627776 < X := by omega
    clear h h1
    go_enter Try.func100, Try.ntmps100
    go_wp2_with (first | (go_at_call 88; (with_reducible refine (within_no _ _ _ (by omega)).mono ?_); rintro e w' ⟨rfl, rfl⟩))
    go_ret
    exact ⟨rfl, hx.1⟩

theorem l14Vector_yes (X Y : Int) (w : World) (h : Fx.VecIn X Y) :
    Calls Try.prog 98 #[.agg #[.int .i64 X, .int .i64 Y]] w fun e w' => e = .returned (.bool true) ∧ Below w.heap.size w w' := by
  have h' := h
  unfold Fx.VecIn at h'
  have hx := bx_one w X Y 46
  (have hf := hx.2.2; simp only [List.forall_mem_cons, List.not_mem_nil, false_imp_iff, implies_true, and_true, Bx1] at hf; first | have hd := bx_apart4 hx | have hd := bx_apart3 hx | have hd := bx_apart2 hx | have hd := trivial)
  go_enter Try.func98, Try.ntmps98
  go_wp2_with (first | (go_at_call 78; (with_reducible refine (l1In_yes _ _ _ _ (by omega)).mono ?_); rintro e w' ⟨rfl, rfl⟩))
  go_ret
  exact ⟨rfl, hx.1⟩
theorem l14Vector_no (X Y : Int) (w : World) (h : ¬ Fx.VecIn X Y) :
    Calls Try.prog 98 #[.agg #[.int .i64 X, .int .i64 Y]] w fun e w' => e = .returned (.bool false) ∧ Below w.heap.size w w' := by
  unfold Fx.VecIn at h
  have hx := bx_one w X Y 46
  (have hf := hx.2.2; simp only [List.forall_mem_cons, List.not_mem_nil, false_imp_iff, implies_true, and_true, Bx1] at hf; first | have hd := bx_apart4 hx | have hd := bx_apart3 hx | have hd := bx_apart2 hx | have hd := trivial)
  by_cases h1 : -1099511627776 ≤ X ∧ X ≤ 1099511627776
  · have h2 : Y < -1099511627776 ∨ 1099511627776 < Y := by omega
    clear h
    go_enter Try.func98, Try.ntmps98
    go_wp2_with (first | (go_at_call 78; (with_reducible refine (l1In_yes _ _ _ _ (by omega)).mono ?_); rintro e w' ⟨rfl, rfl⟩) | (go_at_call 78; (with_reducible refine (l1In_no _ _ _ _ (by omega)).mono ?_); rintro e w' ⟨rfl, rfl⟩))
    go_ret
    exact ⟨rfl, hx.1⟩
  · have h2 : X < -1099511627776 ∨ 1099511627776 < X := by omega
    clear h h1
    go_enter Try.func98, Try.ntmps98
    go_wp2_with (first | (go_at_call 78; (with_reducible refine (l1In_no _ _ _ _ (by omega)).mono ?_); rintro e w' ⟨rfl, rfl⟩))
    go_ret
    exact ⟨rfl, hx.1⟩

/-- One step. -/
def vstep (X Y : Int) (k : Nat) (b : Bool) : Int × Int := if b then (X - Y / 2 ^ k, Y + X / 2 ^ k) else (X + Y / 2 ^ k, Y - X / 2 ^ k)
def signOf (b : Bool) : Int := if b then 0 else -1
theorem far_shift {X : Int} (k : Nat) (h : -576460752303423488 ≤ X ∧ X ≤ 576460752303423488) : -576460752303423488 ≤ X / 2 ^ k ∧ X / 2 ^ k ≤ 576460752303423488 := Fx.floor_far k (by omega) h

set_option maxHeartbeats 2000000 in
theorem vstep_any (X Y : Int) (k : Nat) (b : Bool) (w : World) (hX : -576460752303423488 ≤ X ∧ X ≤ 576460752303423488) (hY : -576460752303423488 ≤ Y ∧ Y ≤ 576460752303423488) (hk : k ≤ 20) :
    Calls Try.prog 101 #[.agg #[.int .i64 X, .int .i64 Y], .int .i64 k, .int .i64 (signOf b)] w
      fun e w' => e = .returned (.agg #[.int .i64 (vstep X Y k b).1, .int .i64 (vstep X Y k b).2]) ∧ Below w.heap.size w w' := by
  have F1 : ∀ w, Calls Try.prog 111 #[.int .i64 Y, .int .i64 k] w fun e w' => e = .returned (.int .i64 (Y / 2 ^ k)) ∧ w = w' := by
    intro w
    have e : Fx.floorShift Y k = Y / 2 ^ k := by unfold Fx.floorShift; rw [if_pos (by unfold Fx.Work; omega), show ((k : Int)).toNat = k by omega]
    rw [← e]; exact floorShift_any _ _ _
  have F2 : ∀ w, Calls Try.prog 111 #[.int .i64 X, .int .i64 k] w fun e w' => e = .returned (.int .i64 (X / 2 ^ k)) ∧ w = w' := by
    intro w
    have e : Fx.floorShift X k = X / 2 ^ k := by unfold Fx.floorShift; rw [if_pos (by unfold Fx.Work; omega), show ((k : Int)).toNat = k by omega]
    rw [← e]; exact floorShift_any _ _ _
  have b1 := far_shift k hX
  have b2 := far_shift k hY
  have hx := holdR1 w (.int .i64 X) (.int .i64 Y) 46 46
  unfold vstep signOf
  generalize X / 2 ^ k = q at *
  generalize Y / 2 ^ k = p at *
  cases b
  · have G1 := fun w => signed_neg p w (by omega)
    have G2 := fun w => signed_neg q w (by omega)
    simp only [Bool.false_eq_true, if_false]
    rw [show Y - q = Y + -q by omega]
    (have hf := hx.1.2; simp only [List.forall_mem_cons, List.not_mem_nil, false_imp_iff, implies_true, and_true] at hf; obtain ⟨rv, ru, hg, hc0, hc1⟩ := hx.facts)
    go_enter Try.func101, Try.ntmps101
    go_wp2
    (have hn : Nonempty (HeldR w [(w.heap.size, 0, .int .i64 X), (w.heap.size, 1, .int .i64 Y)] (w.heap.size + 1)) := ⟨⟨_, hx⟩⟩; have hl0 : ∀ x : HeldR w [(w.heap.size, 0, .int .i64 X), (w.heap.size, 1, .int .i64 Y)] (w.heap.size + 1), x.it.cell? ⟨w.heap.size, 0, none⟩ = some (.int .i64 X) := fun x => x.at0; have hl1 : ∀ x : HeldR w [(w.heap.size, 0, .int .i64 X), (w.heap.size, 1, .int .i64 Y)] (w.heap.size + 1), x.it.cell? ⟨w.heap.size, 1, none⟩ = some (.int .i64 Y) := fun x => x.at1; refine wp_region_holdR_tail 18 hx (by kernel_rfl) (by kernel_rfl) ?_; simp only [List.take_succ_cons, List.take_zero, List.drop_succ_cons, List.drop_zero]; (repeat (go_big_quiet_step ((first | (go_at_call 111; first | (with_reducible exact Calls.heldR (F1 _)) | (with_reducible exact Calls.heldR_same (F1 _))) | (go_at_call 111; first | (with_reducible exact Calls.heldR (F2 _)) | (with_reducible exact Calls.heldR_same (F2 _))) | (go_at_call 102; first | (with_reducible exact Calls.heldR (G1 _)) | (with_reducible exact Calls.heldR_same (G1 _))) | (go_at_call 102; first | (with_reducible exact Calls.heldR (G2 _)) | (with_reducible exact Calls.heldR_same (G2 _))))))); refine wpQuiet_nil ?_; clear hx; intro _ hx; clear hn hl0 hl1)
    clear hf hg hc0 hc1 rv ru
    (have hf := hx.1.2; simp only [List.forall_mem_cons, List.not_mem_nil, false_imp_iff, implies_true, and_true] at hf; obtain ⟨rv, ru, hg, hc0, hc1⟩ := hx.facts)
    go_wp2
    (obtain ⟨e0, e1, hb9⟩ := hx.done (.int .i64 (X + p)) (.int .i64 (Y + -q)); (try simp only [Exit.inBlock, Exit.then]); exact bodyPost_ret (v := .agg #[.int .i64 (X + p), .int .i64 (Y + -q)]) (by simp [results, Try.results101, go_sem, e0, e1]) rfl ⟨rfl, hb9⟩)
  · have G1 := fun w => signed_pos p w (by omega)
    have G2 := fun w => signed_pos q w (by omega)
    simp only [if_true]
    (have hf := hx.1.2; simp only [List.forall_mem_cons, List.not_mem_nil, false_imp_iff, implies_true, and_true] at hf; obtain ⟨rv, ru, hg, hc0, hc1⟩ := hx.facts)
    go_enter Try.func101, Try.ntmps101
    go_wp2
    (have hn : Nonempty (HeldR w [(w.heap.size, 0, .int .i64 X), (w.heap.size, 1, .int .i64 Y)] (w.heap.size + 1)) := ⟨⟨_, hx⟩⟩; have hl0 : ∀ x : HeldR w [(w.heap.size, 0, .int .i64 X), (w.heap.size, 1, .int .i64 Y)] (w.heap.size + 1), x.it.cell? ⟨w.heap.size, 0, none⟩ = some (.int .i64 X) := fun x => x.at0; have hl1 : ∀ x : HeldR w [(w.heap.size, 0, .int .i64 X), (w.heap.size, 1, .int .i64 Y)] (w.heap.size + 1), x.it.cell? ⟨w.heap.size, 1, none⟩ = some (.int .i64 Y) := fun x => x.at1; refine wp_region_holdR_tail 18 hx (by kernel_rfl) (by kernel_rfl) ?_; simp only [List.take_succ_cons, List.take_zero, List.drop_succ_cons, List.drop_zero]; (repeat (go_big_quiet_step ((first | (go_at_call 111; first | (with_reducible exact Calls.heldR (F1 _)) | (with_reducible exact Calls.heldR_same (F1 _))) | (go_at_call 111; first | (with_reducible exact Calls.heldR (F2 _)) | (with_reducible exact Calls.heldR_same (F2 _))) | (go_at_call 102; first | (with_reducible exact Calls.heldR (G1 _)) | (with_reducible exact Calls.heldR_same (G1 _))) | (go_at_call 102; first | (with_reducible exact Calls.heldR (G2 _)) | (with_reducible exact Calls.heldR_same (G2 _))))))); refine wpQuiet_nil ?_; clear hx; intro _ hx; clear hn hl0 hl1)
    clear hf hg hc0 hc1 rv ru
    (have hf := hx.1.2; simp only [List.forall_mem_cons, List.not_mem_nil, false_imp_iff, implies_true, and_true] at hf; obtain ⟨rv, ru, hg, hc0, hc1⟩ := hx.facts)
    go_wp2
    (obtain ⟨e0, e1, hb9⟩ := hx.done (.int .i64 (X - p)) (.int .i64 (Y + q)); (try simp only [Exit.inBlock, Exit.then]); exact bodyPost_ret (v := .agg #[.int .i64 (X - p), .int .i64 (Y + q)]) (by simp [results, Try.results101, go_sem, e0, e1]) rfl ⟨rfl, hb9⟩)

set_option maxHeartbeats 2000000 in
theorem l14Step_any (X Y : Int) (k : Nat) (b : Bool) (w : World) (hX : -576460752303423488 ≤ X ∧ X ≤ 576460752303423488) (hY : -576460752303423488 ≤ Y ∧ Y ≤ 576460752303423488) (hk : k ≤ 20) :
    Calls Try.prog 99 #[.agg #[.int .i64 X, .int .i64 Y], .int .i64 k, .bool b] w
      fun e w' => e = .returned (.agg #[.int .i64 (vstep X Y k b).1, .int .i64 (vstep X Y k b).2]) ∧ Below w.heap.size w w' := by
  have hk2 := Fx.one_le_pow k
  have hk3 := Fx.pow_le_pow (k := k) (n := 20) hk
  have F1 : ∀ w, Calls Try.prog 106 #[.int .i64 X, .int .i64 (2 ^ k)] w fun e w' => e = .returned (.int .i64 (X / 2 ^ k)) ∧ w = w' := fun w => l1Floor_any _ _ _ (by omega) (by omega)
  have F2 : ∀ w, Calls Try.prog 106 #[.int .i64 Y, .int .i64 (2 ^ k)] w fun e w' => e = .returned (.int .i64 (Y / 2 ^ k)) ∧ w = w' := fun w => l1Floor_any _ _ _ (by omega) (by omega)
  have b1 := far_shift k hX
  have b2 := far_shift k hY
  have hx := holdR1 w (.int .i64 X) (.int .i64 Y) 46 46
  have hmin : min k 64 = k := by omega
  have hw := IntWalk.i64_in ((2 : Int) ^ k) (by omega)
  unfold vstep
  generalize hq : X / 2 ^ k = q at *
  generalize hp : Y / 2 ^ k = p at *
  clear hq hp
  cases b
  · simp only [Bool.false_eq_true, if_false]
    (have hf := hx.1.2; simp only [List.forall_mem_cons, List.not_mem_nil, false_imp_iff, implies_true, and_true] at hf; obtain ⟨rv, ru, hg, hc0, hc1⟩ := hx.facts)
    go_enter Try.func99, Try.ntmps99
    go_wp2
    (have hn : Nonempty (HeldR w [(w.heap.size, 0, .int .i64 X), (w.heap.size, 1, .int .i64 Y)] (w.heap.size + 1)) := ⟨⟨_, hx⟩⟩; have hl0 : ∀ x : HeldR w [(w.heap.size, 0, .int .i64 X), (w.heap.size, 1, .int .i64 Y)] (w.heap.size + 1), x.it.cell? ⟨w.heap.size, 0, none⟩ = some (.int .i64 X) := fun x => x.at0; have hl1 : ∀ x : HeldR w [(w.heap.size, 0, .int .i64 X), (w.heap.size, 1, .int .i64 Y)] (w.heap.size + 1), x.it.cell? ⟨w.heap.size, 1, none⟩ = some (.int .i64 Y) := fun x => x.at1; refine wp_region_holdR hx (by kernel_rfl) (by kernel_rfl) ?_; (repeat (go_big_quiet_step ((first | (go_at_call 106; first | (with_reducible exact Calls.heldR (F1 _)) | (with_reducible exact Calls.heldR_same (F1 _))) | (go_at_call 106; first | (with_reducible exact Calls.heldR (F2 _)) | (with_reducible exact Calls.heldR_same (F2 _))))))); refine wpQuiet_nil ?_; clear hx; intro _ hx; clear hn hl0 hl1)
    clear hf hg hc0 hc1 rv ru
    (have hf := hx.1.2; simp only [List.forall_mem_cons, List.not_mem_nil, false_imp_iff, implies_true, and_true] at hf; obtain ⟨rv, ru, hg, hc0, hc1⟩ := hx.facts)
    go_wp2
    (have hn : Nonempty (HeldR w [(w.heap.size, 0, .int .i64 X), (w.heap.size, 1, .int .i64 Y)] (w.heap.size + 1)) := ⟨⟨_, hx⟩⟩; have hl0 : ∀ x : HeldR w [(w.heap.size, 0, .int .i64 X), (w.heap.size, 1, .int .i64 Y)] (w.heap.size + 1), x.it.cell? ⟨w.heap.size, 0, none⟩ = some (.int .i64 X) := fun x => x.at0; have hl1 : ∀ x : HeldR w [(w.heap.size, 0, .int .i64 X), (w.heap.size, 1, .int .i64 Y)] (w.heap.size + 1), x.it.cell? ⟨w.heap.size, 1, none⟩ = some (.int .i64 Y) := fun x => x.at1; refine wp_region_holdR hx (by kernel_rfl) (by kernel_rfl) ?_; (repeat (go_big_quiet_step ((first | (go_at_call 106; first | (with_reducible exact Calls.heldR (F1 _)) | (with_reducible exact Calls.heldR_same (F1 _))) | (go_at_call 106; first | (with_reducible exact Calls.heldR (F2 _)) | (with_reducible exact Calls.heldR_same (F2 _))))))); refine wpQuiet_nil ?_; clear hx; intro _ hx; clear hn hl0 hl1)
    clear hf hg hc0 hc1 rv ru
    (have hf := hx.1.2; simp only [List.forall_mem_cons, List.not_mem_nil, false_imp_iff, implies_true, and_true] at hf; obtain ⟨rv, ru, hg, hc0, hc1⟩ := hx.facts)
    go_wp2
    (obtain ⟨e0, e1, hb9⟩ := hx.done (.int .i64 (X + p)) (.int .i64 (Y - q)); (try simp only [Exit.inBlock, Exit.then]); exact bodyPost_ret (v := .agg #[.int .i64 (X + p), .int .i64 (Y - q)]) (by simp [results, Try.results99, go_sem, e0, e1]) rfl ⟨rfl, hb9⟩)
  · simp only [if_true]
    (have hf := hx.1.2; simp only [List.forall_mem_cons, List.not_mem_nil, false_imp_iff, implies_true, and_true] at hf; obtain ⟨rv, ru, hg, hc0, hc1⟩ := hx.facts)
    go_enter Try.func99, Try.ntmps99
    go_wp2
    (have hn : Nonempty (HeldR w [(w.heap.size, 0, .int .i64 X), (w.heap.size, 1, .int .i64 Y)] (w.heap.size + 1)) := ⟨⟨_, hx⟩⟩; have hl0 : ∀ x : HeldR w [(w.heap.size, 0, .int .i64 X), (w.heap.size, 1, .int .i64 Y)] (w.heap.size + 1), x.it.cell? ⟨w.heap.size, 0, none⟩ = some (.int .i64 X) := fun x => x.at0; have hl1 : ∀ x : HeldR w [(w.heap.size, 0, .int .i64 X), (w.heap.size, 1, .int .i64 Y)] (w.heap.size + 1), x.it.cell? ⟨w.heap.size, 1, none⟩ = some (.int .i64 Y) := fun x => x.at1; refine wp_region_holdR hx (by kernel_rfl) (by kernel_rfl) ?_; (repeat (go_big_quiet_step ((first | (go_at_call 106; first | (with_reducible exact Calls.heldR (F1 _)) | (with_reducible exact Calls.heldR_same (F1 _))) | (go_at_call 106; first | (with_reducible exact Calls.heldR (F2 _)) | (with_reducible exact Calls.heldR_same (F2 _))))))); refine wpQuiet_nil ?_; clear hx; intro _ hx; clear hn hl0 hl1)
    clear hf hg hc0 hc1 rv ru
    (have hf := hx.1.2; simp only [List.forall_mem_cons, List.not_mem_nil, false_imp_iff, implies_true, and_true] at hf; obtain ⟨rv, ru, hg, hc0, hc1⟩ := hx.facts)
    go_wp2
    (have hn : Nonempty (HeldR w [(w.heap.size, 0, .int .i64 X), (w.heap.size, 1, .int .i64 Y)] (w.heap.size + 1)) := ⟨⟨_, hx⟩⟩; have hl0 : ∀ x : HeldR w [(w.heap.size, 0, .int .i64 X), (w.heap.size, 1, .int .i64 Y)] (w.heap.size + 1), x.it.cell? ⟨w.heap.size, 0, none⟩ = some (.int .i64 X) := fun x => x.at0; have hl1 : ∀ x : HeldR w [(w.heap.size, 0, .int .i64 X), (w.heap.size, 1, .int .i64 Y)] (w.heap.size + 1), x.it.cell? ⟨w.heap.size, 1, none⟩ = some (.int .i64 Y) := fun x => x.at1; refine wp_region_holdR hx (by kernel_rfl) (by kernel_rfl) ?_; (repeat (go_big_quiet_step ((first | (go_at_call 106; first | (with_reducible exact Calls.heldR (F1 _)) | (with_reducible exact Calls.heldR_same (F1 _))) | (go_at_call 106; first | (with_reducible exact Calls.heldR (F2 _)) | (with_reducible exact Calls.heldR_same (F2 _))))))); refine wpQuiet_nil ?_; clear hx; intro _ hx; clear hn hl0 hl1)
    clear hf hg hc0 hc1 rv ru
    (have hf := hx.1.2; simp only [List.forall_mem_cons, List.not_mem_nil, false_imp_iff, implies_true, and_true] at hf; obtain ⟨rv, ru, hg, hc0, hc1⟩ := hx.facts)
    go_wp2
    (obtain ⟨e0, e1, hb9⟩ := hx.done (.int .i64 (X - p)) (.int .i64 (Y + q)); (try simp only [Exit.inBlock, Exit.then]); exact bodyPost_ret (v := .agg #[.int .i64 (X - p), .int .i64 (Y + q)]) (by simp [results, Try.results99, go_sem, e0, e1]) rfl ⟨rfl, hb9⟩)

end Go.Proofs.Ytmjmafgjejphbaa
