/-
  The walks of stored powers of 2.
-/
import Derived.Test.YtfllhncilfkamaaTwoPower
import Derived.Test.YtfllhncilfkamaaFmt
import Derived.Test.YtfllhncilfkamaaMathQ
namespace Go.Proofs.Ytfllhncilfkamaa
open Go.RowKit

set_option maxHeartbeats 4000000 in
theorem powerStored_yes (W P n : Int) (w : World) (h : Fx.Fits W P n) :
    Calls Try.prog 47 #[.agg #[.int .i64 W, .int .i64 P], .int .i64 n] w
      fun e w' => e = .returned (.tuple #[.int .i64 (Fx.powNum W P n), .bool (Fx.powFit W P n)]) ∧ Below w.heap.size w w' := by
  have hx := hold_two w (.int .i64 W) (.int .i64 P) 52
  obtain ⟨⟨w1, w2⟩, ⟨w3, w4⟩, b1, b2, c1, c2, c3⟩ := Fx.pow_parts h
  have hrest := Fx.rest_is n P
  have hl := Fx.powLow_in h
  have hF : Fx.Fmt W P := h.1
  have hF' : (1 ≤ W ∧ W ≤ 12) ∧ 0 ≤ P ∧ P ≤ 16 := h.1
  have hp := Fx.pow_16 (k := P.toNat) (by omega)
  have hn : -268435456 ≤ n ∧ n ≤ 268435456 := by
    have := Fx.pow_28 (k := (W + P).toNat) (by omega)
    have h2 : -2 ^ (W + P).toNat ≤ n ∧ n ≤ 2 ^ (W + P).toNat - 1 := h.2
    omega
  have C1 : ∀ w, Calls Try.prog 70 #[.int .i64 n, .int .i64 P] w fun e w' => e = .returned (.int .i64 (n / 2 ^ P.toNat)) ∧ w = w' := by
    intro w; rw [← Fx.floorShift_in n P (by unfold Fx.Work; omega) (by omega) (by omega)]; exact floorShift_any _ _ _
  have C2 : ∀ w, Calls Try.prog 43 #[.int .i64 (n % 2 ^ P.toNat * 2 ^ (16 - P).toNat)] w fun e w' => e = .returned (.agg #[.int .i64 (Fx.powLow P n), .int .i64 (Fx.twoPower (n % 2 ^ P.toNat * 2 ^ (16 - P).toNat)).2]) ∧ Below w.heap.size w w' :=
    fun w => twoPower_any _ w
  have hlow := fun w => low_run (Fx.powLow P n) (Fx.twoPower (n % 2 ^ P.toNat * 2 ^ (16 - P).toNat)).2 w
  have HH := Lib.hid h
  by_cases s1 : 28 - P - n / 2 ^ P.toNat ≤ 0
  · have e1 : Fx.powNum W P n = 2 ^ (W + P).toNat - 1 := if_pos s1
    have e2 : Fx.powFit W P n = false := if_pos s1
    rw [e1, e2]
    clear e1 e2 h hF
    generalize n / 2 ^ P.toNat = v at *
    generalize n % 2 ^ P.toNat = r at *
    (have hf := hx.2; simp only [List.forall_mem_cons, List.not_mem_nil, false_imp_iff, implies_true, and_true] at hf)
    go_enter Try.func47, Try.ntmps47
    go_wp2_with (first | (go_at_call 50; refine (storedFits_yes _ _ _ _ HH.out).mono ?_; rintro e w1 ⟨rfl, hb⟩; replace hx := hx.below hb; clear hb; (try clear hf); (have hf := hx.2; simp only [List.forall_mem_cons, List.not_mem_nil, false_imp_iff, implies_true, and_true] at hf)) | (go_at_call 70; refine (C1 _).mono ?_; rintro e w' ⟨rfl, rfl⟩) | (go_at_call 43; (with_reducible refine (C2 _).mono ?_); rintro e w1 ⟨rfl, hb⟩; replace hx := hx.below hb; clear hb; (try clear hf); (have hf := hx.2; simp only [List.forall_mem_cons, List.not_mem_nil, false_imp_iff, implies_true, and_true] at hf)) | (go_at_call 71; refine (greatest_any _ _ _ hF').mono ?_; rintro e w1 ⟨rfl, hb⟩; replace hx := hx.below hb; clear hb; (try clear hf); (have hf := hx.2; simp only [List.forall_mem_cons, List.not_mem_nil, false_imp_iff, implies_true, and_true] at hf)))
    go_ret2
    exact ⟨rfl, hx.1⟩
  · by_cases s2 : 60 < 28 - P - n / 2 ^ P.toNat
    · have e1 : Fx.powNum W P n = 0 := by unfold Fx.powNum; rw [if_neg s1, if_pos s2]
      have e2 : Fx.powFit W P n = true := by unfold Fx.powFit; rw [if_neg s1, if_pos s2]
      rw [e1, e2]
      clear e1 e2 h hF
      generalize n / 2 ^ P.toNat = v at *
      generalize n % 2 ^ P.toNat = r at *
      (have hf := hx.2; simp only [List.forall_mem_cons, List.not_mem_nil, false_imp_iff, implies_true, and_true] at hf)
      go_enter Try.func47, Try.ntmps47
      go_wp2_with (first | (go_at_call 50; refine (storedFits_yes _ _ _ _ HH.out).mono ?_; rintro e w1 ⟨rfl, hb⟩; replace hx := hx.below hb; clear hb; (try clear hf); (have hf := hx.2; simp only [List.forall_mem_cons, List.not_mem_nil, false_imp_iff, implies_true, and_true] at hf)) | (go_at_call 70; refine (C1 _).mono ?_; rintro e w' ⟨rfl, rfl⟩) | (go_at_call 43; (with_reducible refine (C2 _).mono ?_); rintro e w1 ⟨rfl, hb⟩; replace hx := hx.below hb; clear hb; (try clear hf); (have hf := hx.2; simp only [List.forall_mem_cons, List.not_mem_nil, false_imp_iff, implies_true, and_true] at hf)))
      go_ret2
      exact ⟨rfl, hx.1⟩
    · have e1 : Fx.powNum W P n = Fx.cut W P (Fx.rnd (Fx.powLow P n) (2 ^ (28 - P - n / 2 ^ P.toNat).toNat)) := by unfold Fx.powNum; rw [if_neg s1, if_neg s2]
      have e2 : Fx.powFit W P n = (Fx.cut W P (Fx.rnd (Fx.powLow P n) (2 ^ (28 - P - n / 2 ^ P.toNat).toNat)) == Fx.rnd (Fx.powLow P n) (2 ^ (28 - P - n / 2 ^ P.toNat).toNat)) := by unfold Fx.powFit; rw [if_neg s1, if_neg s2]
      have C3 : ∀ w, Calls Try.prog 73 #[.int .i64 (Fx.powLow P n), .int .i64 (28 - P - n / 2 ^ P.toNat)] w fun e w' => e = .returned (.int .i64 (Fx.rnd (Fx.powLow P n) (2 ^ (28 - P - n / 2 ^ P.toNat).toNat))) ∧ w = w' := by
        intro w; rw [← Fx.roundShift_in (Fx.powLow P n) (28 - P - n / 2 ^ P.toNat) (by unfold Fx.Work; omega) (by omega) (by omega)]; exact roundShift_any _ _ _
      rw [e1, e2]
      clear e1 e2 h hF
      generalize n / 2 ^ P.toNat = v at *
      generalize n % 2 ^ P.toNat = r at *
      generalize Fx.rnd (Fx.powLow P n) (2 ^ (28 - P - v).toNat) = z at *
      (have hf := hx.2; simp only [List.forall_mem_cons, List.not_mem_nil, false_imp_iff, implies_true, and_true] at hf)
      go_enter Try.func47, Try.ntmps47
      go_wp2_with (first | (go_at_call 50; refine (storedFits_yes _ _ _ _ HH.out).mono ?_; rintro e w1 ⟨rfl, hb⟩; replace hx := hx.below hb; clear hb; (try clear hf); (have hf := hx.2; simp only [List.forall_mem_cons, List.not_mem_nil, false_imp_iff, implies_true, and_true] at hf)) | (go_at_call 70; refine (C1 _).mono ?_; rintro e w' ⟨rfl, rfl⟩) | (go_at_call 43; (with_reducible refine (C2 _).mono ?_); rintro e w1 ⟨rfl, hb⟩; replace hx := hx.below hb; clear hb; (try clear hf); (have hf := hx.2; simp only [List.forall_mem_cons, List.not_mem_nil, false_imp_iff, implies_true, and_true] at hf)))
      (have hn : Nonempty (Held w [(w.heap.size, 0, .int .i64 W), (w.heap.size, 1, .int .i64 P)]) := ⟨⟨_, hx⟩⟩; have hl0 : ∀ x : Held w [(w.heap.size, 0, .int .i64 W), (w.heap.size, 1, .int .i64 P)], x.it.cell? ⟨w.heap.size, 0, none⟩ = some (.int .i64 W) := fun x => x.at0; have hl1 : ∀ x : Held w [(w.heap.size, 0, .int .i64 W), (w.heap.size, 1, .int .i64 P)], x.it.cell? ⟨w.heap.size, 1, none⟩ = some (.int .i64 P) := fun x => x.at1; refine wp_region_hold [(w.heap.size, 0, .int .i64 W), (w.heap.size, 1, .int .i64 P)] hx (by kernel_rfl) (by kernel_rfl) ?_; (repeat (go_big_quiet_step ((first | (go_at_call 73; first | (with_reducible exact Calls.held (C3 _)) | (with_reducible exact Calls.held_same (C3 _))) | (go_at_call 72; first | (with_reducible exact Calls.held (cutStored_yes W P _ _ hF')) | (with_reducible exact Calls.held_same (cutStored_yes W P _ _ hF'))))))); refine wpQuiet_nil ?_; clear hx; intro _ hx; clear hn hl0 hl1)
      go_wp2
      go_ret2
      exact ⟨rfl, hx.1⟩

set_option maxHeartbeats 1000000 in
theorem powerStored_no (W P n : Int) (w : World) (h : ¬ Fx.Fits W P n) :
    Calls Try.prog 47 #[.agg #[.int .i64 W, .int .i64 P], .int .i64 n] w
      fun e w' => e = .returned (.tuple #[.int .i64 0, .bool false]) ∧ Below w.heap.size w w' := by
  have hx := hold_two w (.int .i64 W) (.int .i64 P) 52
  have HH := Lib.hid h
  clear h
  (have hf := hx.2; simp only [List.forall_mem_cons, List.not_mem_nil, false_imp_iff, implies_true, and_true] at hf)
  go_enter Try.func47, Try.ntmps47
  go_wp2_with (first | (go_at_call 50; refine (storedFits_no _ _ _ _ HH.out).mono ?_; rintro e w1 ⟨rfl, hb⟩; replace hx := hx.below hb; clear hb; (try clear hf); (have hf := hx.2; simp only [List.forall_mem_cons, List.not_mem_nil, false_imp_iff, implies_true, and_true] at hf)))
  go_ret2
  exact ⟨rfl, hx.1⟩

set_option maxHeartbeats 4000000 in
theorem s_powerStored_yes (W P n : Int) (w : World) (h : Fx.Fits W P n) :
    Calls Try.prog 45 #[.agg #[.int .i64 W, .int .i64 P], .int .i64 n] w
      fun e w' => e = .returned (.tuple #[.int .i64 (Fx.powNum W P n), .bool (Fx.powFit W P n)]) ∧ Below w.heap.size w w' := by
  have hx := hold_two w (.int .i64 W) (.int .i64 P) 52
  obtain ⟨⟨w1, w2⟩, ⟨w3, w4⟩, b1, b2, c1, c2, c3⟩ := Fx.pow_parts h
  have hrest := Fx.rest_is n P
  have hl := Fx.powLow_in h
  have hF : Fx.Fmt W P := h.1
  have hF' : (1 ≤ W ∧ W ≤ 12) ∧ 0 ≤ P ∧ P ≤ 16 := h.1
  have hp := Fx.pow_16 (k := P.toNat) (by omega)
  have hn : -268435456 ≤ n ∧ n ≤ 268435456 := by
    have := Fx.pow_28 (k := (W + P).toNat) (by omega)
    have h2 : -2 ^ (W + P).toNat ≤ n ∧ n ≤ 2 ^ (W + P).toNat - 1 := h.2
    omega
  have C1 := fun w => l1Floor_any n (2 ^ P.toNat) w (by omega) (by omega)
  have C2 : ∀ w, Calls Try.prog 42 #[.int .i64 (n % 2 ^ P.toNat * 2 ^ (16 - P).toNat)] w fun e w' => e = .returned (.agg #[.int .i64 (Fx.powLow P n), .int .i64 (Fx.twoPower (n % 2 ^ P.toNat * 2 ^ (16 - P).toNat)).2]) ∧ Below w.heap.size w w' :=
    fun w => s_twoPower_any _ w
  have hlow := fun w => low_run (Fx.powLow P n) (Fx.twoPower (n % 2 ^ P.toNat * 2 ^ (16 - P).toNat)).2 w
  have HH := Lib.hid h
  by_cases s0 : W + 1 ≤ n / 2 ^ P.toNat
  · obtain ⟨e1, e2⟩ := Fx.pow_over h s0
    rw [e1, e2]
    clear e1 e2 h hF
    generalize n / 2 ^ P.toNat = v at *
    generalize n % 2 ^ P.toNat = r at *
    (have hf := hx.2; simp only [List.forall_mem_cons, List.not_mem_nil, false_imp_iff, implies_true, and_true] at hf)
    go_enter Try.func45, Try.ntmps45
    go_wp2_with (first | (go_at_call 49; refine (s_storedFits_yes _ _ _ _ HH.out).mono ?_; rintro e w1 ⟨rfl, hb⟩; replace hx := hx.below hb; clear hb; (try clear hf); (have hf := hx.2; simp only [List.forall_mem_cons, List.not_mem_nil, false_imp_iff, implies_true, and_true] at hf)) | (go_at_call 52; refine (C1 _).mono ?_; rintro e w' ⟨rfl, rfl⟩) | (go_at_call 42; (with_reducible refine (C2 _).mono ?_); rintro e w1 ⟨rfl, hb⟩; replace hx := hx.below hb; clear hb; (try clear hf); (have hf := hx.2; simp only [List.forall_mem_cons, List.not_mem_nil, false_imp_iff, implies_true, and_true] at hf)) | (go_at_call 67; refine (l4Most_any _ _ _ hF').mono ?_; rintro e w1 ⟨rfl, hb⟩; replace hx := hx.below hb; clear hb; (try clear hf); (have hf := hx.2; simp only [List.forall_mem_cons, List.not_mem_nil, false_imp_iff, implies_true, and_true] at hf)))
    go_ret2
    exact ⟨rfl, hx.1⟩
  · by_cases s1 : 28 - P - n / 2 ^ P.toNat ≤ 0
    · obtain ⟨e0, e1, e2⟩ := Fx.pow_edge h (by omega) s1
      rw [← e1, ← e2]
      clear e1 e2 h hF
      generalize n / 2 ^ P.toNat = v at *
      generalize n % 2 ^ P.toNat = r at *
      (have hf := hx.2; simp only [List.forall_mem_cons, List.not_mem_nil, false_imp_iff, implies_true, and_true] at hf)
      go_enter Try.func45, Try.ntmps45
      go_wp2_with (first | (go_at_call 49; refine (s_storedFits_yes _ _ _ _ HH.out).mono ?_; rintro e w1 ⟨rfl, hb⟩; replace hx := hx.below hb; clear hb; (try clear hf); (have hf := hx.2; simp only [List.forall_mem_cons, List.not_mem_nil, false_imp_iff, implies_true, and_true] at hf)) | (go_at_call 52; refine (C1 _).mono ?_; rintro e w' ⟨rfl, rfl⟩) | (go_at_call 42; (with_reducible refine (C2 _).mono ?_); rintro e w1 ⟨rfl, hb⟩; replace hx := hx.below hb; clear hb; (try clear hf); (have hf := hx.2; simp only [List.forall_mem_cons, List.not_mem_nil, false_imp_iff, implies_true, and_true] at hf)))
      (have hn : Nonempty (Held w [(w.heap.size, 0, .int .i64 W), (w.heap.size, 1, .int .i64 P)]) := ⟨⟨_, hx⟩⟩; have hl0 : ∀ x : Held w [(w.heap.size, 0, .int .i64 W), (w.heap.size, 1, .int .i64 P)], x.it.cell? ⟨w.heap.size, 0, none⟩ = some (.int .i64 W) := fun x => x.at0; have hl1 : ∀ x : Held w [(w.heap.size, 0, .int .i64 W), (w.heap.size, 1, .int .i64 P)], x.it.cell? ⟨w.heap.size, 1, none⟩ = some (.int .i64 P) := fun x => x.at1; refine wp_region_hold [(w.heap.size, 0, .int .i64 W), (w.heap.size, 1, .int .i64 P)] hx (by kernel_rfl) (by kernel_rfl) ?_; (repeat (go_big_quiet_step ((first | (go_at_call 68; first | (with_reducible exact Calls.held (l4Cut_any W P _ _ hF')) | (with_reducible exact Calls.held_same (l4Cut_any W P _ _ hF'))))))); refine wpQuiet_nil ?_; clear hx; intro _ hx; clear hn hl0 hl1)
      go_wp2
      go_ret2
      exact ⟨rfl, hx.1⟩
    · by_cases s2 : 60 < 28 - P - n / 2 ^ P.toNat
      · have e1 : Fx.powNum W P n = 0 := by unfold Fx.powNum; rw [if_neg s1, if_pos s2]
        have e2 : Fx.powFit W P n = true := by unfold Fx.powFit; rw [if_neg s1, if_pos s2]
        rw [e1, e2]
        clear e1 e2 h hF
        generalize n / 2 ^ P.toNat = v at *
        generalize n % 2 ^ P.toNat = r at *
        (have hf := hx.2; simp only [List.forall_mem_cons, List.not_mem_nil, false_imp_iff, implies_true, and_true] at hf)
        go_enter Try.func45, Try.ntmps45
        go_wp2_with (first | (go_at_call 49; refine (s_storedFits_yes _ _ _ _ HH.out).mono ?_; rintro e w1 ⟨rfl, hb⟩; replace hx := hx.below hb; clear hb; (try clear hf); (have hf := hx.2; simp only [List.forall_mem_cons, List.not_mem_nil, false_imp_iff, implies_true, and_true] at hf)) | (go_at_call 52; refine (C1 _).mono ?_; rintro e w' ⟨rfl, rfl⟩) | (go_at_call 42; (with_reducible refine (C2 _).mono ?_); rintro e w1 ⟨rfl, hb⟩; replace hx := hx.below hb; clear hb; (try clear hf); (have hf := hx.2; simp only [List.forall_mem_cons, List.not_mem_nil, false_imp_iff, implies_true, and_true] at hf)))
        go_ret2
        exact ⟨rfl, hx.1⟩
      · have e1 : Fx.powNum W P n = Fx.cut W P (Fx.rnd (Fx.powLow P n) (2 ^ (28 - P - n / 2 ^ P.toNat).toNat)) := by unfold Fx.powNum; rw [if_neg s1, if_neg s2]
        have e2 : Fx.powFit W P n = (Fx.cut W P (Fx.rnd (Fx.powLow P n) (2 ^ (28 - P - n / 2 ^ P.toNat).toNat)) == Fx.rnd (Fx.powLow P n) (2 ^ (28 - P - n / 2 ^ P.toNat).toNat)) := by unfold Fx.powFit; rw [if_neg s1, if_neg s2]
        have em : -(n / 2 ^ P.toNat + P - 28) = 28 - P - n / 2 ^ P.toNat := by omega
        have hs := Fx.two_pow_le (-(n / 2 ^ P.toNat + P - 28)).toNat (by omega)
        have C3 : ∀ w, Calls Try.prog 69 #[.int .i64 (Fx.powLow P n), .int .i64 (2 ^ (-(n / 2 ^ P.toNat + P - 28)).toNat)] w fun e w' => e = .returned (.int .i64 (Fx.rnd (Fx.powLow P n) (2 ^ (28 - P - n / 2 ^ P.toNat).toNat))) ∧ w = w' := by
          intro w; rw [← em]; exact l1Round_any _ _ _ (by omega) (by omega)
        rw [e1, e2]
        clear e1 e2 h hF em
        generalize n / 2 ^ P.toNat = v at *
        generalize n % 2 ^ P.toNat = r at *
        generalize Fx.rnd (Fx.powLow P n) (2 ^ (28 - P - v).toNat) = z at *
        have hm : IntKind.i64.wrap (-(v + P - 28)) = -(v + P - 28) := IntWalk.i64_in _ (by omega)
        (have hf := hx.2; simp only [List.forall_mem_cons, List.not_mem_nil, false_imp_iff, implies_true, and_true] at hf)
        go_enter Try.func45, Try.ntmps45
        go_wp2_with (first | (go_at_call 49; refine (s_storedFits_yes _ _ _ _ HH.out).mono ?_; rintro e w1 ⟨rfl, hb⟩; replace hx := hx.below hb; clear hb; (try clear hf); (have hf := hx.2; simp only [List.forall_mem_cons, List.not_mem_nil, false_imp_iff, implies_true, and_true] at hf)) | (go_at_call 52; refine (C1 _).mono ?_; rintro e w' ⟨rfl, rfl⟩) | (go_at_call 42; (with_reducible refine (C2 _).mono ?_); rintro e w1 ⟨rfl, hb⟩; replace hx := hx.below hb; clear hb; (try clear hf); (have hf := hx.2; simp only [List.forall_mem_cons, List.not_mem_nil, false_imp_iff, implies_true, and_true] at hf)))
        (have hn : Nonempty (Held w [(w.heap.size, 0, .int .i64 W), (w.heap.size, 1, .int .i64 P)]) := ⟨⟨_, hx⟩⟩; have hl0 : ∀ x : Held w [(w.heap.size, 0, .int .i64 W), (w.heap.size, 1, .int .i64 P)], x.it.cell? ⟨w.heap.size, 0, none⟩ = some (.int .i64 W) := fun x => x.at0; have hl1 : ∀ x : Held w [(w.heap.size, 0, .int .i64 W), (w.heap.size, 1, .int .i64 P)], x.it.cell? ⟨w.heap.size, 1, none⟩ = some (.int .i64 P) := fun x => x.at1; refine wp_region_hold [(w.heap.size, 0, .int .i64 W), (w.heap.size, 1, .int .i64 P)] hx (by kernel_rfl) (by kernel_rfl) ?_; (repeat (go_big_quiet_step ((first | (go_at_call 69; first | (with_reducible exact Calls.held (C3 _)) | (with_reducible exact Calls.held_same (C3 _))) | (go_at_call 68; first | (with_reducible exact Calls.held (l4Cut_any W P _ _ hF')) | (with_reducible exact Calls.held_same (l4Cut_any W P _ _ hF'))))))); refine wpQuiet_nil ?_; clear hx; intro _ hx; clear hn hl0 hl1)
        go_wp2
        go_ret2
        exact ⟨rfl, hx.1⟩

set_option maxHeartbeats 1000000 in
theorem s_powerStored_no (W P n : Int) (w : World) (h : ¬ Fx.Fits W P n) :
    Calls Try.prog 45 #[.agg #[.int .i64 W, .int .i64 P], .int .i64 n] w
      fun e w' => e = .returned (.tuple #[.int .i64 0, .bool false]) ∧ Below w.heap.size w w' := by
  have hx := hold_two w (.int .i64 W) (.int .i64 P) 52
  have HH := Lib.hid h
  clear h
  (have hf := hx.2; simp only [List.forall_mem_cons, List.not_mem_nil, false_imp_iff, implies_true, and_true] at hf)
  go_enter Try.func45, Try.ntmps45
  go_wp2_with (first | (go_at_call 49; refine (s_storedFits_no _ _ _ _ HH.out).mono ?_; rintro e w1 ⟨rfl, hb⟩; replace hx := hx.below hb; clear hb; (try clear hf); (have hf := hx.2; simp only [List.forall_mem_cons, List.not_mem_nil, false_imp_iff, implies_true, and_true] at hf)))
  go_ret2
  exact ⟨rfl, hx.1⟩

end Go.Proofs.Ytfllhncilfkamaa
