/-
  The walks of spans: what is valid, what is in a span.
-/
import Derived.Test.YtmjmafgjejphbaaSpan0
namespace Go.Proofs.Ytmjmafgjejphbaa
open Go.RowKit

set_option maxHeartbeats 400000 in
theorem spanValid_yes (a b : Int) (w : World) (h : Fx.svalid a b) :
    Calls Try.prog 39 #[.agg #[.int .i64 a, .int .i64 b]] w fun e w' => e = .returned (.bool true) ∧ Below w.heap.size w w' := by
  have hx := hold_two w (.int .i64 a) (.int .i64 b) 31
  unfold Fx.svalid at h
  (have hf := hx.2; simp only [List.forall_mem_cons, List.not_mem_nil, false_imp_iff, implies_true, and_true] at hf)
  go_enter Try.func39, Try.ntmps39
  go_wp2_with (go_at_call 88; refine (within_yes _ _ _ ?_).mono ?_; omega; rintro e w' ⟨rfl, rfl⟩)
  go_ret
  exact ⟨rfl, hx.1⟩
set_option maxHeartbeats 1000000 in
theorem spanValid_no (a b : Int) (w : World) (h : ¬ Fx.svalid a b) :
    Calls Try.prog 39 #[.agg #[.int .i64 a, .int .i64 b]] w fun e w' => e = .returned (.bool false) ∧ Below w.heap.size w w' := by
  have hx := hold_two w (.int .i64 a) (.int .i64 b) 31
  have hc : (a < -1073741824 ∨ 1073741824 < a) ∨ ((-1073741824 ≤ a ∧ a ≤ 1073741824) ∧ (b < -1073741824 ∨ 1073741824 < b)) ∨ ((-1073741824 ≤ a ∧ a ≤ 1073741824) ∧ (-1073741824 ≤ b ∧ b ≤ 1073741824) ∧ b < a) := by unfold Fx.svalid at h; omega
  clear h
  (have hf := hx.2; simp only [List.forall_mem_cons, List.not_mem_nil, false_imp_iff, implies_true, and_true] at hf)
  rcases hc with hc | ⟨hc, hd⟩ | ⟨hc, hd, he⟩
  all_goals
    go_enter Try.func39, Try.ntmps39
    go_wp2_with (first | (go_at_call 88; refine (within_yes _ _ _ ?_).mono ?_; (omega); rintro e w' ⟨rfl, rfl⟩) | (go_at_call 88; refine (within_no _ _ _ ?_).mono ?_; (omega); rintro e w' ⟨rfl, rfl⟩))
    go_ret
    exact ⟨ret_b (by simp; try omega), hx.1⟩

set_option maxHeartbeats 400000 in
theorem s_spanValid_yes (a b : Int) (w : World) (h : Fx.svalid a b) :
    Calls Try.prog 107 #[.agg #[.int .i64 a, .int .i64 b]] w fun e w' => e = .returned (.bool true) ∧ Below w.heap.size w w' := by
  have hx := hold_two w (.int .i64 a) (.int .i64 b) 31
  unfold Fx.svalid at h
  (have hf := hx.2; simp only [List.forall_mem_cons, List.not_mem_nil, false_imp_iff, implies_true, and_true] at hf)
  go_enter Try.func107, Try.ntmps107
  go_wp2_with (go_at_call 78; refine (l1In_yes _ _ _ _ ?_).mono ?_; omega; rintro e w' ⟨rfl, rfl⟩)
  go_ret
  exact ⟨rfl, hx.1⟩
set_option maxHeartbeats 1000000 in
theorem s_spanValid_no (a b : Int) (w : World) (h : ¬ Fx.svalid a b) :
    Calls Try.prog 107 #[.agg #[.int .i64 a, .int .i64 b]] w fun e w' => e = .returned (.bool false) ∧ Below w.heap.size w w' := by
  have hx := hold_two w (.int .i64 a) (.int .i64 b) 31
  have hc : (a < -1073741824 ∨ 1073741824 < a) ∨ ((-1073741824 ≤ a ∧ a ≤ 1073741824) ∧ (b < -1073741824 ∨ 1073741824 < b)) ∨ ((-1073741824 ≤ a ∧ a ≤ 1073741824) ∧ (-1073741824 ≤ b ∧ b ≤ 1073741824) ∧ b < a) := by unfold Fx.svalid at h; omega
  clear h
  (have hf := hx.2; simp only [List.forall_mem_cons, List.not_mem_nil, false_imp_iff, implies_true, and_true] at hf)
  rcases hc with hc | ⟨hc, hd⟩ | ⟨hc, hd, he⟩
  all_goals
    go_enter Try.func107, Try.ntmps107
    go_wp2_with (first | (go_at_call 78; refine (l1In_yes _ _ _ _ ?_).mono ?_; (omega); rintro e w' ⟨rfl, rfl⟩) | (go_at_call 78; refine (l1In_no _ _ _ _ ?_).mono ?_; (omega); rintro e w' ⟨rfl, rfl⟩))
    go_ret
    exact ⟨ret_b (by simp; try omega), hx.1⟩

set_option maxHeartbeats 400000 in
theorem spanHas_yes (a b n : Int) (w : World) (h : Fx.svalid a b) (hn : a ≤ n ∧ n ≤ b) :
    Calls Try.prog 46 #[.agg #[.int .i64 a, .int .i64 b], .int .i64 n] w fun e w' => e = .returned (.bool true) ∧ Below w.heap.size w w' := by
  have hx := hold_two w (.int .i64 a) (.int .i64 b) 31
  have V := Lib.hid h
  clear h
  (have hf := hx.2; simp only [List.forall_mem_cons, List.not_mem_nil, false_imp_iff, implies_true, and_true] at hf)
  go_enter Try.func46, Try.ntmps46
  go_wp2_with (go_at_call 39; refine (spanValid_yes _ _ _ V.out).mono ?_; rintro e w1 ⟨rfl, hb⟩; replace hx := hx.below hb; clear hb; (try clear hf); (have hf := hx.2; simp only [List.forall_mem_cons, List.not_mem_nil, false_imp_iff, implies_true, and_true] at hf))
  go_ret
  exact ⟨rfl, hx.1⟩
set_option maxHeartbeats 1000000 in
theorem spanHas_no (a b n : Int) (w : World) (h : ¬(Fx.svalid a b ∧ a ≤ n ∧ n ≤ b)) :
    Calls Try.prog 46 #[.agg #[.int .i64 a, .int .i64 b], .int .i64 n] w fun e w' => e = .returned (.bool false) ∧ Below w.heap.size w w' := by
  have hx := hold_two w (.int .i64 a) (.int .i64 b) 31
  by_cases hv : Fx.svalid a b
  · have hc : n < a ∨ (a ≤ n ∧ b < n) := by
      have : ¬(a ≤ n ∧ n ≤ b) := fun k => h ⟨hv, k⟩
      omega
    have V := Lib.hid hv
    clear h hv
    (have hf := hx.2; simp only [List.forall_mem_cons, List.not_mem_nil, false_imp_iff, implies_true, and_true] at hf)
    rcases hc with hc | hc
    all_goals
      go_enter Try.func46, Try.ntmps46
      go_wp2_with (go_at_call 39; refine (spanValid_yes _ _ _ V.out).mono ?_; rintro e w1 ⟨rfl, hb⟩; replace hx := hx.below hb; clear hb; (try clear hf); (have hf := hx.2; simp only [List.forall_mem_cons, List.not_mem_nil, false_imp_iff, implies_true, and_true] at hf))
      go_ret
      exact ⟨ret_b (by simp; try omega), hx.1⟩
  · have V := Lib.hid hv
    clear h hv
    (have hf := hx.2; simp only [List.forall_mem_cons, List.not_mem_nil, false_imp_iff, implies_true, and_true] at hf)
    go_enter Try.func46, Try.ntmps46
    go_wp2_with (go_at_call 39; refine (spanValid_no _ _ _ V.out).mono ?_; rintro e w1 ⟨rfl, hb⟩; replace hx := hx.below hb; clear hb; (try clear hf); (have hf := hx.2; simp only [List.forall_mem_cons, List.not_mem_nil, false_imp_iff, implies_true, and_true] at hf))
    go_ret
    exact ⟨rfl, hx.1⟩

set_option maxHeartbeats 1000000 in
theorem checked_any (a b : Int) (w : World) :
    Calls Try.prog 89 #[.agg #[.int .i64 a, .int .i64 b]] w
      fun e w' => e = .returned (.tuple #[.agg #[.int .i64 (Fx.good a b).1, .int .i64 (Fx.good a b).2.1], .bool (Fx.good a b).2.2]) ∧ Below w.heap.size w w' := by
  have hx := holdR1 w (.int .i64 a) (.int .i64 b) 31 31
  by_cases v : Fx.svalid a b
  · simp only [Fx.good_yes v]
    have V := Lib.hid v
    clear v
    (have hf := hx.1.2; simp only [List.forall_mem_cons, List.not_mem_nil, false_imp_iff, implies_true, and_true] at hf; obtain ⟨rv, ru, hg, hc0, hc1⟩ := hx.facts)
    go_enter Try.func89, Try.ntmps89
    go_wp2_with (go_at_call 39; (with_reducible refine (spanValid_yes _ _ _ V.out).mono ?_); rintro e w1 ⟨rfl, hb⟩; replace hx := hx.below hb; clear hb; (try clear hf hg hc0 hc1 rv ru); (have hf := hx.1.2; simp only [List.forall_mem_cons, List.not_mem_nil, false_imp_iff, implies_true, and_true] at hf; obtain ⟨rv, ru, hg, hc0, hc1⟩ := hx.facts))
    (obtain ⟨e0, e1, hb9⟩ := hx.done (.int .i64 (a)) (.int .i64 (b)); (try simp only [Exit.inBlock, Exit.then]); exact bodyPost_ret (v := .tuple #[.agg #[.int .i64 a, .int .i64 b], .bool true]) (by simp [results, Try.results89, go_sem, e0, e1]) rfl ⟨rfl, hb9⟩)
  · simp only [Fx.good_no v]
    have V := Lib.hid v
    clear v
    (have hf := hx.1.2; simp only [List.forall_mem_cons, List.not_mem_nil, false_imp_iff, implies_true, and_true] at hf; obtain ⟨rv, ru, hg, hc0, hc1⟩ := hx.facts)
    go_enter Try.func89, Try.ntmps89
    go_wp2_with (go_at_call 39; (with_reducible refine (spanValid_no _ _ _ V.out).mono ?_); rintro e w1 ⟨rfl, hb⟩; replace hx := hx.below hb; clear hb; (try clear hf hg hc0 hc1 rv ru); (have hf := hx.1.2; simp only [List.forall_mem_cons, List.not_mem_nil, false_imp_iff, implies_true, and_true] at hf; obtain ⟨rv, ru, hg, hc0, hc1⟩ := hx.facts))
    (obtain ⟨e0, e1, hb9⟩ := hx.done (.int .i64 (0)) (.int .i64 (0)); (try simp only [Exit.inBlock, Exit.then]); exact bodyPost_ret (v := .tuple #[.agg #[.int .i64 0, .int .i64 0], .bool false]) (by simp [results, Try.results89, go_sem, e0, e1]) rfl ⟨rfl, hb9⟩)

set_option maxHeartbeats 1000000 in
theorem l7Good_any (a b : Int) (w : World) :
    Calls Try.prog 108 #[.agg #[.int .i64 a, .int .i64 b]] w
      fun e w' => e = .returned (.tuple #[.agg #[.int .i64 (Fx.good a b).1, .int .i64 (Fx.good a b).2.1], .bool (Fx.good a b).2.2]) ∧ Below w.heap.size w w' := by
  have hx := holdR1 w (.int .i64 a) (.int .i64 b) 31 31
  by_cases v : Fx.svalid a b
  · simp only [Fx.good_yes v]
    have V := Lib.hid v
    clear v
    (have hf := hx.1.2; simp only [List.forall_mem_cons, List.not_mem_nil, false_imp_iff, implies_true, and_true] at hf; obtain ⟨rv, ru, hg, hc0, hc1⟩ := hx.facts)
    go_enter Try.func108, Try.ntmps108
    go_wp2_with (go_at_call 107; (with_reducible refine (s_spanValid_yes _ _ _ V.out).mono ?_); rintro e w1 ⟨rfl, hb⟩; replace hx := hx.below hb; clear hb; (try clear hf hg hc0 hc1 rv ru); (have hf := hx.1.2; simp only [List.forall_mem_cons, List.not_mem_nil, false_imp_iff, implies_true, and_true] at hf; obtain ⟨rv, ru, hg, hc0, hc1⟩ := hx.facts))
    (obtain ⟨e0, e1, hb9⟩ := hx.done (.int .i64 (a)) (.int .i64 (b)); (try simp only [Exit.inBlock, Exit.then]); exact bodyPost_ret (v := .tuple #[.agg #[.int .i64 a, .int .i64 b], .bool true]) (by simp [results, Try.results108, go_sem, e0, e1]) rfl ⟨rfl, hb9⟩)
  · simp only [Fx.good_no v]
    have V := Lib.hid v
    clear v
    (have hf := hx.1.2; simp only [List.forall_mem_cons, List.not_mem_nil, false_imp_iff, implies_true, and_true] at hf; obtain ⟨rv, ru, hg, hc0, hc1⟩ := hx.facts)
    go_enter Try.func108, Try.ntmps108
    go_wp2_with (go_at_call 107; (with_reducible refine (s_spanValid_no _ _ _ V.out).mono ?_); rintro e w1 ⟨rfl, hb⟩; replace hx := hx.below hb; clear hb; (try clear hf hg hc0 hc1 rv ru); (have hf := hx.1.2; simp only [List.forall_mem_cons, List.not_mem_nil, false_imp_iff, implies_true, and_true] at hf; obtain ⟨rv, ru, hg, hc0, hc1⟩ := hx.facts))
    (obtain ⟨e0, e1, hb9⟩ := hx.done (.int .i64 (0)) (.int .i64 (0)); (try simp only [Exit.inBlock, Exit.then]); exact bodyPost_ret (v := .tuple #[.agg #[.int .i64 0, .int .i64 0], .bool false]) (by simp [results, Try.results108, go_sem, e0, e1]) rfl ⟨rfl, hb9⟩)

