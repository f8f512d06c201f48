/-
  The walks of cosines and sines.
-/
import Derived.Test.YtmjmafgjejphbaaTurn
import Derived.Test.YtmjmafgjejphbaaGrowth
import Derived.Test.YtmjmafgjejphbaaMathW
namespace Go.Proofs.Ytmjmafgjejphbaa
open Go.RowKit

/-! ### Folds -/
theorem foldAngle_low (t : Int) (w : World) (h : 0 ≤ t ∧ t ≤ 65535) (k : t % 16384 ≤ 8192) :
    Calls Try.prog 75 #[.int .i64 t] w fun e w' => e = .returned (.tuple #[.int .i64 (t % 16384), .bool false]) ∧ w = w' := by
  have hm : bits .and .i64 t 16383 = t % 16384 := and_mask t 14 (by decide)
  go_enter Try.func75, Try.ntmps75
  go_wp2
  go_ret2
  exact ⟨rfl, rfl⟩
theorem foldAngle_high (t : Int) (w : World) (h : 0 ≤ t ∧ t ≤ 65535) (k : ¬ t % 16384 ≤ 8192) :
    Calls Try.prog 75 #[.int .i64 t] w fun e w' => e = .returned (.tuple #[.int .i64 (16384 - t % 16384), .bool true]) ∧ w = w' := by
  have hm : bits .and .i64 t 16383 = t % 16384 := and_mask t 14 (by decide)
  go_enter Try.func75, Try.ntmps75
  go_wp2
  go_ret2
  exact ⟨rfl, rfl⟩
theorem s_foldAngle_low (t : Int) (w : World) (h : 0 ≤ t ∧ t ≤ 65535) (k : t % 16384 ≤ 8192) :
    Calls Try.prog 80 #[.int .i64 t] w fun e w' => e = .returned (.tuple #[.int .i64 (t % 16384), .bool false]) ∧ w = w' := by
  have hm : t.tmod 16384 = t % 16384 := Int.tmod_eq_emod_of_nonneg h.1
  go_enter Try.func80, Try.ntmps80
  go_wp2_with (first | (go_at_call 78; (with_reducible refine (l1In_yes _ _ _ _ (by omega)).mono ?_); rintro e w' ⟨rfl, rfl⟩))
  go_ret2
  exact ⟨rfl, rfl⟩
theorem s_foldAngle_high (t : Int) (w : World) (h : 0 ≤ t ∧ t ≤ 65535) (k : ¬ t % 16384 ≤ 8192) :
    Calls Try.prog 80 #[.int .i64 t] w fun e w' => e = .returned (.tuple #[.int .i64 (16384 - t % 16384), .bool true]) ∧ w = w' := by
  have hm : t.tmod 16384 = t % 16384 := Int.tmod_eq_emod_of_nonneg h.1
  go_enter Try.func80, Try.ntmps80
  go_wp2_with (first | (go_at_call 78; (with_reducible refine (l1In_yes _ _ _ _ (by omega)).mono ?_); rintro e w' ⟨rfl, rfl⟩))
  go_ret2
  exact ⟨rfl, rfl⟩

theorem quarterOf_in (t : Int) (w : World) (h : 0 ≤ t ∧ t ≤ 65535) :
    Calls Try.prog 77 #[.int .i64 t] w fun e w' => e = .returned (.int .i64 (t / 16384)) ∧ w = w' := by
  have hm : t.tdiv 16384 = t / 16384 := Int.tdiv_eq_ediv_of_nonneg h.1
  go_enter Try.func77, Try.ntmps77
  go_wp2
  go_ret
  exact ⟨rfl, rfl⟩
theorem s_quarterOf_in (t : Int) (w : World) (h : 0 ≤ t ∧ t ≤ 65535) :
    Calls Try.prog 82 #[.int .i64 t] w fun e w' => e = .returned (.int .i64 (t / 16384)) ∧ w = w' := by
  have hm : t.tdiv 16384 = t / 16384 := Int.tdiv_eq_ediv_of_nonneg h.1
  go_enter Try.func82, Try.ntmps82
  go_wp2_with (first | (go_at_call 78; (with_reducible refine (l1In_yes _ _ _ _ (by omega)).mono ?_); rintro e w' ⟨rfl, rfl⟩))
  go_ret
  exact ⟨rfl, rfl⟩

/-! ### An eighth -/
theorem eighth_pack (a : Int) (h0 : 1 ≤ a) (h1 : a ≤ 8192) : ∃ x y t p q c s : Int, Fx.turnVector 163008216 0 (a * 1024) 20 = (x, y, t, true) ∧
    (-1152921504606846976 ≤ x ∧ x ≤ 1152921504606846976) ∧ (-1152921504606846976 ≤ y ∧ y ≤ 1152921504606846976) ∧ Fx.rnd x 16384 = p ∧ Fx.rnd y 16384 = q ∧ Fx.eighth a = (c, s) ∧
    (min p 16384 = c ∧ min 16384 p = c) ∧ (max q 0 = s ∧ max 0 q = s) := by
  have hv : Fx.VecIn 163008216 0 := by unfold Fx.VecIn; omega
  have z := Fx.turn_size (X := 163008216) (Y := 0) (a := a * 1024) hv (by omega) 20 (by omega)
  have e60 : (2 : Int) ^ (40 + 20) = 1152921504606846976 := by decide
  have e : Fx.startS 20 = 163008216 := Fx.start_is 20 (by omega)
  rw [e60] at z
  refine ⟨(Fx.turn 163008216 0 (a * 1024) 20).1, (Fx.turn 163008216 0 (a * 1024) 20).2.1, (Fx.turn 163008216 0 (a * 1024) 20).2.2, _, _, (Fx.eighth a).1, (Fx.eighth a).2, ?_, by omega, by omega, rfl, rfl, rfl, ?_, ?_⟩
  · exact if_pos ⟨hv, by omega, by omega⟩
  · unfold Fx.eighth; rw [if_neg (by omega), e]; exact ⟨rfl, by simp only; omega⟩
  · unfold Fx.eighth; rw [if_neg (by omega), e]; exact ⟨rfl, by simp only; omega⟩

abbrev TwoInts (p : Int × Int) : Value := .tuple #[.int .i64 p.1, .int .i64 p.2]
set_option maxHeartbeats 2000000 in
theorem eighth_any (a : Int) (w : World) (h : 0 ≤ a ∧ a ≤ 8192) :
    Calls Try.prog 76 #[.int .i64 a] w fun e w' => e = .returned (TwoInts (Fx.eighth a)) ∧ Below w.heap.size w w' := by
  have hx := Bx.nil w
  by_cases h0 : a = 0
  · subst h0
    rw [Fx.eighth_zero]
    go_enter Try.func76, Try.ntmps76
    go_wp2
    go_ret2
    exact ⟨rfl, hx.1⟩
  · obtain ⟨x, y, t, p, q, c, s, e1, hx1, hy1, e2, e3, e4, ⟨m1, -⟩, m2, -⟩ := eighth_pack a (by omega) h.2
    have hz : (a == 0) = false := by simpa using h0
    have S := fun w => startOf_any 20 w
    have T := fun w => turnVector_any 163008216 0 (a * 1024) 20 w
    unfold TurnV at T
    rw [show Fx.startOf 20 = 163008216 from Fx.start_is 20 (by omega)] at S
    rw [e1] at T
    rw [e4]
    have R1 : ∀ w, Calls Try.prog 104 #[.int .i64 x, .int .i64 14] w fun e w' => e = .returned (.int .i64 p) ∧ w = w' := by
      intro w
      have e : Fx.roundShift x 14 = p := by rw [Fx.roundShift_in x 14 (by unfold Fx.Work; omega) (by omega) (by omega)]; exact e2
      rw [← e]; exact roundShift_any _ _ _
    have R2 : ∀ w, Calls Try.prog 104 #[.int .i64 y, .int .i64 14] w fun e w' => e = .returned (.int .i64 q) ∧ w = w' := by
      intro w
      have e : Fx.roundShift y 14 = q := by rw [Fx.roundShift_in y 14 (by unfold Fx.Work; omega) (by omega) (by omega)]; exact e3
      rw [← e]; exact roundShift_any _ _ _
    clear e1 e2 e3 e4
    go_enter Try.func76, Try.ntmps76
    go_wp2_with (first | (go_at_call 52; (with_reducible refine (S _).mono ?_); rintro e w1 ⟨rfl, hb⟩; replace hx := Bx.below hx hb; clear hb) | (go_at_call 64; (with_reducible refine (T _).mono ?_); rintro e w2 ⟨rfl, hb⟩; replace hx := (Bx.below hx hb).box (x) (y) 46; clear hb; (try clear hf hd); (have hf := hx.2.2; simp only [List.forall_mem_cons, List.not_mem_nil, false_imp_iff, implies_true, and_true, Bx1] at hf; first | have hd := bx_apart4 hx | have hd := bx_apart3 hx | have hd := bx_apart2 hx | have hd := trivial)))
    (have hn : Nonempty (BxW w [(w2.heap.size, x, y)]) := ⟨⟨_, hx⟩⟩; have hl0 := fun x : BxW w [(w2.heap.size, x, y)] => x.at0; refine wp_region_bx hx (by kernel_rfl) (by kernel_rfl) ?_; (repeat (first | go_big_quiet_step ((first | (go_at_call 104; first | (with_reducible exact Calls.heldB (R1 _)) | (with_reducible exact Calls.heldB_same (R1 _))) | (go_at_call 104; first | (with_reducible exact Calls.heldB (R2 _)) | (with_reducible exact Calls.heldB_same (R2 _))))) | quiet_step (fail))); refine wpQuiet_nil ?_; clear hx; intro _ hx; clear hn hl0)
    clear hf
    (have hf := hx.2.2; simp only [List.forall_mem_cons, List.not_mem_nil, false_imp_iff, implies_true, and_true, Bx1] at hf; first | have hd := bx_apart4 hx | have hd := bx_apart3 hx | have hd := bx_apart2 hx | have hd := trivial)
    go_wp2
    go_ret2
    exact ⟨rfl, hx.1⟩

set_option maxHeartbeats 2000000 in
theorem s_eighth_any (a : Int) (w : World) (h : 0 ≤ a ∧ a ≤ 8192) :
    Calls Try.prog 81 #[.int .i64 a] w fun e w' => e = .returned (TwoInts (Fx.eighth a)) ∧ Below w.heap.size w w' := by
  have hx := Bx.nil w
  by_cases h0 : a = 0
  · subst h0
    rw [Fx.eighth_zero]
    go_enter Try.func81, Try.ntmps81
    go_wp2
    go_ret2
    exact ⟨rfl, hx.1⟩
  · obtain ⟨x, y, t, p, q, c, s, e1, hx1, hy1, e2, e3, e4, ⟨-, m1⟩, -, m2⟩ := eighth_pack a (by omega) h.2
    have hz : (a == 0) = false := by simpa using h0
    have S := fun w => s_startOf_any 20 w
    have T := fun w => s_turnVector_any 163008216 0 (a * 1024) 20 w
    unfold TurnV at T
    rw [show Fx.startOf 20 = 163008216 from Fx.start_is 20 (by omega)] at S
    rw [e1] at T
    rw [e4]
    have R1 : ∀ w, Calls Try.prog 94 #[.int .i64 x, .int .i64 16384] w fun e w' => e = .returned (.int .i64 p) ∧ w = w' := by
      intro w; rw [← e2]; exact l1Round_any _ _ _ (by omega) (by omega)
    have R2 : ∀ w, Calls Try.prog 94 #[.int .i64 y, .int .i64 16384] w fun e w' => e = .returned (.int .i64 q) ∧ w = w' := by
      intro w; rw [← e3]; exact l1Round_any _ _ _ (by omega) (by omega)
    clear e1 e2 e3 e4
    go_enter Try.func81, Try.ntmps81
    go_wp2_with (first | (go_at_call 51; (with_reducible refine (S _).mono ?_); rintro e w1 ⟨rfl, hb⟩; replace hx := Bx.below hx hb; clear hb) | (go_at_call 62; (with_reducible refine (T _).mono ?_); rintro e w2 ⟨rfl, hb⟩; replace hx := (Bx.below hx hb).box (x) (y) 46; clear hb; (try clear hf hd); (have hf := hx.2.2; simp only [List.forall_mem_cons, List.not_mem_nil, false_imp_iff, implies_true, and_true, Bx1] at hf; first | have hd := bx_apart4 hx | have hd := bx_apart3 hx | have hd := bx_apart2 hx | have hd := trivial)))
    (have hn : Nonempty (BxW w [(w2.heap.size, x, y)]) := ⟨⟨_, hx⟩⟩; have hl0 := fun x : BxW w [(w2.heap.size, x, y)] => x.at0; refine wp_region_bx hx (by kernel_rfl) (by kernel_rfl) ?_; (repeat (first | go_big_quiet_step ((first | (go_at_call 94; first | (with_reducible exact Calls.heldB (R1 _)) | (with_reducible exact Calls.heldB_same (R1 _))) | (go_at_call 94; first | (with_reducible exact Calls.heldB (R2 _)) | (with_reducible exact Calls.heldB_same (R2 _))))) | quiet_step (fail))); refine wpQuiet_nil ?_; clear hx; intro _ hx; clear hn hl0)
    clear hf
    (have hf := hx.2.2; simp only [List.forall_mem_cons, List.not_mem_nil, false_imp_iff, implies_true, and_true, Bx1] at hf; first | have hd := bx_apart4 hx | have hd := bx_apart3 hx | have hd := bx_apart2 hx | have hd := trivial)
    go_wp2
    go_ret2
    exact ⟨rfl, hx.1⟩

/-! ### All angles -/
theorem rot_size {c s : Int} (hc : 0 ≤ c ∧ c ≤ 16384) (hs : 0 ≤ s ∧ s ≤ 16384) : ∀ k : Nat, (-16384 ≤ (Fx.rot c s k).1 ∧ (Fx.rot c s k).1 ≤ 16384) ∧ -16384 ≤ (Fx.rot c s k).2 ∧ (Fx.rot c s k).2 ≤ 16384
  | 0 => by unfold Fx.rot; simp only; omega
  | k + 1 => by
    have := rot_size hc hs k
    unfold Fx.rot; simp only; omega
theorem rot_next {c s : Int} (hc : 0 ≤ c ∧ c ≤ 16384) (hs : 0 ≤ s ∧ s ≤ 16384) (k : Nat) : ∃ x y : Int, Fx.rot c s k = (x, y) ∧ Fx.rot c s (k + 1) = (-y, x) ∧ (-16384 ≤ x ∧ x ≤ 16384) ∧ -16384 ≤ y ∧ y ≤ 16384 := by
  have := rot_size hc hs k
  exact ⟨(Fx.rot c s k).1, (Fx.rot c s k).2, rfl, rfl, this.1, this.2⟩
/-- The turns' number, the fold, and the two numbers of an angle. -/
theorem cos_pack (a : Int) (h : Fx.Work a) : ∃ (t r c s : Int) (q : Nat), a % 65536 = t ∧ (0 ≤ t ∧ t ≤ 65535) ∧ t % 16384 = r ∧ (0 ≤ r ∧ r ≤ 16383) ∧ t / 16384 = q ∧ q ≤ 3 ∧
    (r ≤ 8192 → Fx.eighth r = (c, s)) ∧ (¬ r ≤ 8192 → Fx.eighth (16384 - r) = (s, c)) ∧ (0 ≤ c ∧ c ≤ 16384) ∧ (0 ≤ s ∧ s ≤ 16384) ∧ Fx.cosSin a = Fx.rot c s q := by
  have hl := Fx.fold_law (a % 65536 % 16384) (by omega) (by omega)
  refine ⟨a % 65536, a % 65536 % 16384, (Fx.fold (a % 65536 % 16384)).1, (Fx.fold (a % 65536 % 16384)).2, (a % 65536 / 16384).toNat, rfl, by omega, rfl, by omega, by omega, by omega, ?_, ?_, hl.1, hl.2.1, ?_⟩
  · intro h1
    have e : Fx.fold (a % 65536 % 16384) = Fx.eighth (a % 65536 % 16384) := if_pos h1
    rw [e]
  · intro h1
    have e : Fx.fold (a % 65536 % 16384) = ((Fx.eighth (16384 - a % 65536 % 16384)).2, (Fx.eighth (16384 - a % 65536 % 16384)).1) := if_neg h1
    rw [e]
  · unfold Fx.cosSin
    rw [if_pos h]

set_option maxHeartbeats 2000000 in
theorem cosSin_any (a : Int) (w : World) :
    Calls Try.prog 25 #[.int .i64 a] w fun e w' => e = .returned (TwoInts (Fx.cosSin a)) ∧ Below w.heap.size w w' := by
  have hx := Bx.nil w
  by_cases hA : -1152921504606846976 ≤ a ∧ a ≤ 1152921504606846976
  · have hW : Fx.Work a := by unfold Fx.Work; omega
    obtain ⟨t, r, c, s, q, e1, ht, e2, hr, e3, hq, e4, e5, hc, hs, e6⟩ := cos_pack a hW
    have W1 := fun w => wrapAngle_any a w
    rw [show Fx.wrapAngle a = t by rw [Fx.wrapAngle, if_pos hW, e1]] at W1
    have Q := fun w => quarterOf_in t w ht
    rw [e3] at Q
    rw [e6]
    by_cases hf : r ≤ 8192
    · have F := fun w => foldAngle_low t w ht (by omega)
      have E := fun w => eighth_any r w (by omega)
      rw [e4 hf] at E
      rw [e2] at F
      clear e1 e2 e3 e4 e5 e6
      go_enter Try.func25, Try.ntmps25
      go_wp2_with (first | (go_at_call 74; (with_reducible refine (workable_yes _ _ hA).mono ?_); rintro e w' ⟨rfl, rfl⟩) | (go_at_call 29; (with_reducible refine (W1 _).mono ?_); rintro e w' ⟨rfl, rfl⟩) | (go_at_call 75; (with_reducible refine (F _).mono ?_); rintro e w' ⟨rfl, rfl⟩) | (go_at_call 76; (with_reducible refine (E _).mono ?_); rintro e w1 ⟨rfl, hb⟩; replace hx := Bx.below hx hb; clear hb) | (go_at_call 77; (with_reducible refine (Q _).mono ?_); rintro e w' ⟨rfl, rfl⟩))
      go_loopw [7, 8, 29] (fun x y i w' => ∃ k : Nat, k ≤ q ∧ i = .int .i64 k ∧ x = .int .i64 (Fx.rot c s k).1 ∧ y = .int .i64 (Fx.rot c s k).2 ∧ Bx w [] w') (fun _ _ i _ => (q - intOf i).toNat)
      case atStart => exact ⟨0, by omega, rfl, rfl, rfl, hx⟩
      case round =>
        clear hx
        obtain ⟨k, hk, rfl, rfl, rfl, hx⟩ := hrel
        by_cases h4 : k < q
        · obtain ⟨x, y, f1, f2, bx, by'⟩ := rot_next hc hs k
          simp only [f1]
          go_wp2
          go_roundw
          case rel => exact ⟨k + 1, by omega, by go_num, by rw [f2], by rw [f2], hx⟩
          case measure => simp [intOf]; omega
        · obtain rfl : k = q := by omega
          go_wp2
          go_ret2
          exact ⟨rfl, hx.1⟩
    · have F := fun w => foldAngle_high t w ht (by omega)
      have E := fun w => eighth_any (16384 - r) w (by omega)
      rw [e5 hf] at E
      rw [e2] at F
      clear e1 e2 e3 e4 e5 e6
      go_enter Try.func25, Try.ntmps25
      go_wp2_with (first | (go_at_call 74; (with_reducible refine (workable_yes _ _ hA).mono ?_); rintro e w' ⟨rfl, rfl⟩) | (go_at_call 29; (with_reducible refine (W1 _).mono ?_); rintro e w' ⟨rfl, rfl⟩) | (go_at_call 75; (with_reducible refine (F _).mono ?_); rintro e w' ⟨rfl, rfl⟩) | (go_at_call 76; (with_reducible refine (E _).mono ?_); rintro e w1 ⟨rfl, hb⟩; replace hx := Bx.below hx hb; clear hb) | (go_at_call 77; (with_reducible refine (Q _).mono ?_); rintro e w' ⟨rfl, rfl⟩))
      go_loopw [7, 8, 29] (fun x y i w' => ∃ k : Nat, k ≤ q ∧ i = .int .i64 k ∧ x = .int .i64 (Fx.rot c s k).1 ∧ y = .int .i64 (Fx.rot c s k).2 ∧ Bx w [] w') (fun _ _ i _ => (q - intOf i).toNat)
      case atStart => exact ⟨0, by omega, rfl, rfl, rfl, hx⟩
      case round =>
        clear hx
        obtain ⟨k, hk, rfl, rfl, rfl, hx⟩ := hrel
        by_cases h4 : k < q
        · obtain ⟨x, y, f1, f2, bx, by'⟩ := rot_next hc hs k
          simp only [f1]
          go_wp2
          go_roundw
          case rel => exact ⟨k + 1, by omega, by go_num, by rw [f2], by rw [f2], hx⟩
          case measure => simp [intOf]; omega
        · obtain rfl : k = q := by omega
          go_wp2
          go_ret2
          exact ⟨rfl, hx.1⟩
  · have e : Fx.cosSin a = (0, 0) := if_neg (by unfold Fx.Work; omega)
    rw [e]
    have hc : a < -1152921504606846976 ∨ 1152921504606846976 < a := by omega
    go_enter Try.func25, Try.ntmps25
    go_wp2_with (first | (go_at_call 74; (with_reducible refine (workable_no _ _ hc).mono ?_); rintro e w' ⟨rfl, rfl⟩))
    go_ret2
    exact ⟨rfl, hx.1⟩

set_option maxHeartbeats 2000000 in
theorem s_cosSin_any (a : Int) (w : World) :
    Calls Try.prog 26 #[.int .i64 a] w fun e w' => e = .returned (TwoInts (Fx.cosSin a)) ∧ Below w.heap.size w w' := by
  have hx := Bx.nil w
  by_cases hA : -1152921504606846976 ≤ a ∧ a ≤ 1152921504606846976
  · have hW : Fx.Work a := by unfold Fx.Work; omega
    obtain ⟨t, r, c, s, q, e1, ht, e2, hr, e3, hq, e4, e5, hc, hs, e6⟩ := cos_pack a hW
    have W1 := fun w => l12Wrap_any a w
    rw [e1] at W1
    have Q := fun w => s_quarterOf_in t w ht
    rw [e3] at Q
    rw [e6]
    by_cases hf : r ≤ 8192
    · have F := fun w => s_foldAngle_low t w ht (by omega)
      have E := fun w => s_eighth_any r w (by omega)
      rw [e4 hf] at E
      rw [e2] at F
      clear e1 e2 e3 e4 e5 e6
      go_enter Try.func26, Try.ntmps26
      go_wp2_with (first | (go_at_call 78; (with_reducible refine (l1In_yes _ _ _ _ (by omega)).mono ?_); rintro e w' ⟨rfl, rfl⟩) | (go_at_call 79; (with_reducible refine (W1 _).mono ?_); rintro e w' ⟨rfl, rfl⟩) | (go_at_call 80; (with_reducible refine (F _).mono ?_); rintro e w' ⟨rfl, rfl⟩) | (go_at_call 81; (with_reducible refine (E _).mono ?_); rintro e w1 ⟨rfl, hb⟩; replace hx := Bx.below hx hb; clear hb))
      go_loopw [6, 7, 9] (fun x y i w' => ∃ k : Nat, k ≤ q ∧ i = .int .i64 k ∧ x = .int .i64 (Fx.rot c s k).1 ∧ y = .int .i64 (Fx.rot c s k).2 ∧ Bx w [] w') (fun _ _ i _ => (q - intOf i).toNat)
      case atStart => exact ⟨0, by omega, rfl, rfl, rfl, hx⟩
      case round =>
        clear hx
        obtain ⟨k, hk, rfl, rfl, rfl, hx⟩ := hrel
        by_cases h4 : k < q
        · obtain ⟨x, y, f1, f2, bx, by'⟩ := rot_next hc hs k
          simp only [f1]
          go_wp2_with (first | (go_at_call 82; (with_reducible refine (Q _).mono ?_); rintro e w' ⟨rfl, rfl⟩))
          go_roundw
          case rel => exact ⟨k + 1, by omega, by go_num, by rw [f2], by rw [f2], hx⟩
          case measure => simp [intOf]; omega
        · obtain rfl : k = q := by omega
          go_wp2_with (first | (go_at_call 82; (with_reducible refine (Q _).mono ?_); rintro e w' ⟨rfl, rfl⟩))
          go_ret2
          exact ⟨rfl, hx.1⟩
    · have F := fun w => s_foldAngle_high t w ht (by omega)
      have E := fun w => s_eighth_any (16384 - r) w (by omega)
      rw [e5 hf] at E
      rw [e2] at F
      clear e1 e2 e3 e4 e5 e6
      go_enter Try.func26, Try.ntmps26
      go_wp2_with (first | (go_at_call 78; (with_reducible refine (l1In_yes _ _ _ _ (by omega)).mono ?_); rintro e w' ⟨rfl, rfl⟩) | (go_at_call 79; (with_reducible refine (W1 _).mono ?_); rintro e w' ⟨rfl, rfl⟩) | (go_at_call 80; (with_reducible refine (F _).mono ?_); rintro e w' ⟨rfl, rfl⟩) | (go_at_call 81; (with_reducible refine (E _).mono ?_); rintro e w1 ⟨rfl, hb⟩; replace hx := Bx.below hx hb; clear hb))
      go_loopw [6, 7, 9] (fun x y i w' => ∃ k : Nat, k ≤ q ∧ i = .int .i64 k ∧ x = .int .i64 (Fx.rot c s k).1 ∧ y = .int .i64 (Fx.rot c s k).2 ∧ Bx w [] w') (fun _ _ i _ => (q - intOf i).toNat)
      case atStart => exact ⟨0, by omega, rfl, rfl, rfl, hx⟩
      case round =>
        clear hx
        obtain ⟨k, hk, rfl, rfl, rfl, hx⟩ := hrel
        by_cases h4 : k < q
        · obtain ⟨x, y, f1, f2, bx, by'⟩ := rot_next hc hs k
          simp only [f1]
          go_wp2_with (first | (go_at_call 82; (with_reducible refine (Q _).mono ?_); rintro e w' ⟨rfl, rfl⟩))
          go_roundw
          case rel => exact ⟨k + 1, by omega, by go_num, by rw [f2], by rw [f2], hx⟩
          case measure => simp [intOf]; omega
        · obtain rfl : k = q := by omega
          go_wp2_with (first | (go_at_call 82; (with_reducible refine (Q _).mono ?_); rintro e w' ⟨rfl, rfl⟩))
          go_ret2
          exact ⟨rfl, hx.1⟩
  · have e : Fx.cosSin a = (0, 0) := if_neg (by unfold Fx.Work; omega)
    rw [e]
    have hc : a < -1152921504606846976 ∨ 1152921504606846976 < a := by omega
    go_enter Try.func26, Try.ntmps26
    go_wp2_with (first | (go_at_call 78; (with_reducible refine (l1In_no _ _ _ _ (by omega)).mono ?_); rintro e w' ⟨rfl, rfl⟩))
    go_ret2
    exact ⟨rfl, hx.1⟩

theorem cosine_any (a : Int) (w : World) : Calls Try.prog 41 #[.int .i64 a] w fun e w' => e = .returned (.int .i64 (Fx.cosSin a).1) ∧ Below w.heap.size w w' := by
  have hx := Bx.nil w
  have C := fun w => cosSin_any a w
  generalize Fx.cosSin a = z at *
  obtain ⟨c, s⟩ := z
  go_enter Try.func41, Try.ntmps41
  go_wp2_with (first | (go_at_call 25; (with_reducible refine (C _).mono ?_); rintro e w1 ⟨rfl, hb⟩; replace hx := Bx.below hx hb; clear hb))
  go_ret
  exact ⟨rfl, hx.1⟩
theorem s_cosine_any (a : Int) (w : World) : Calls Try.prog 42 #[.int .i64 a] w fun e w' => e = .returned (.int .i64 (Fx.cosSin a).1) ∧ Below w.heap.size w w' := by
  have hx := Bx.nil w
  have C := fun w => s_cosSin_any a w
  generalize Fx.cosSin a = z at *
  obtain ⟨c, s⟩ := z
  go_enter Try.func42, Try.ntmps42
  go_wp2_with (first | (go_at_call 26; (with_reducible refine (C _).mono ?_); rintro e w1 ⟨rfl, hb⟩; replace hx := Bx.below hx hb; clear hb))
  go_ret
  exact ⟨rfl, hx.1⟩
theorem sine_any (a : Int) (w : World) : Calls Try.prog 31 #[.int .i64 a] w fun e w' => e = .returned (.int .i64 (Fx.cosSin a).2) ∧ Below w.heap.size w w' := by
  have hx := Bx.nil w
  have C := fun w => cosSin_any a w
  generalize Fx.cosSin a = z at *
  obtain ⟨c, s⟩ := z
  go_enter Try.func31, Try.ntmps31
  go_wp2_with (first | (go_at_call 25; (with_reducible refine (C _).mono ?_); rintro e w1 ⟨rfl, hb⟩; replace hx := Bx.below hx hb; clear hb))
  go_ret
  exact ⟨rfl, hx.1⟩
theorem s_sine_any (a : Int) (w : World) : Calls Try.prog 32 #[.int .i64 a] w fun e w' => e = .returned (.int .i64 (Fx.cosSin a).2) ∧ Below w.heap.size w w' := by
  have hx := Bx.nil w
  have C := fun w => s_cosSin_any a w
  generalize Fx.cosSin a = z at *
  obtain ⟨c, s⟩ := z
  go_enter Try.func32, Try.ntmps32
  go_wp2_with (first | (go_at_call 26; (with_reducible refine (C _).mono ?_); rintro e w1 ⟨rfl, hb⟩; replace hx := Bx.below hx hb; clear hb))
  go_ret
  exact ⟨rfl, hx.1⟩

end Go.Proofs.Ytmjmafgjejphbaa
