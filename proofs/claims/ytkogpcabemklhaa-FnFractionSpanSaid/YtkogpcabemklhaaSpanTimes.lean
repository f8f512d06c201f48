/-
  The walks of multiples of spans and of spans of fractions.
-/
import Derived.Test.YtkogpcabemklhaaSpan
namespace Go.Proofs.Ytkogpcabemklhaa
open Go.RowKit

theorem times_bounds {a n : Int} (ha : -1073741824 ≤ a ∧ a ≤ 1073741824) (hn : -1000 ≤ n ∧ n ≤ 1000) : -1073741824000 ≤ a * n ∧ a * n ≤ 1073741824000 := by
  have := Fx.mul_bounds' (a := a) (b := n) (A := 1073741824) (B := 1000) ha hn
  omega
theorem times_cases (x y : Int) : ∃ l h : Int, ((y < x ∧ ¬x < y ∧ l = y ∧ h = x) ∨ (¬y < x ∧ x < y ∧ l = x ∧ h = y) ∨ (¬y < x ∧ ¬x < y ∧ l = x ∧ h = x)) ∧ min x y = l ∧ max x y = h :=
  ⟨min x y, max x y, by omega, rfl, rfl⟩

set_option maxHeartbeats 4000000 in
theorem spanTimes_any (a b n : Int) (w : World) :
    Calls Try.prog 34 #[.agg #[.int .i64 a, .int .i64 b], .int .i64 n] w
      fun e w' => e = .returned (.tuple #[.agg #[.int .i64 (Fx.spanTimes a b n).1, .int .i64 (Fx.spanTimes a b n).2.1], .bool (Fx.spanTimes a b n).2.2]) ∧ Below w.heap.size w w' := by
  have hx := holdR1 w (.int .i64 a) (.int .i64 b) 24 24
  by_cases v1 : Fx.svalid a b
  · by_cases v2 : -1000 ≤ n ∧ n ≤ 1000
    · obtain ⟨l, h, hlh, e1, e2⟩ := times_cases (a * n) (b * n)
      have e : Fx.spanTimes a b n = Fx.good l h := by rw [← e1, ← e2]; exact if_pos ⟨v1, v2⟩
      simp only [e]
      have V1 := Lib.hid v1
      have p1 := times_bounds v1.1 v2
      have p2 := times_bounds v1.2.1 v2
      clear v1 e e1 e2
      (have hf := hx.1.2; simp only [List.forall_mem_cons, List.not_mem_nil, false_imp_iff, implies_true, and_true] at hf; obtain ⟨rv, ru, hg, hc0, hc1⟩ := hx.facts)
      rcases hlh with ⟨k1, k2, rfl, rfl⟩ | ⟨k1, k2, rfl, rfl⟩ | ⟨k1, k2, rfl, rfl⟩
      · go_enter Try.func34, Try.ntmps34
        go_wp2_with (first | (go_at_call 18; (with_reducible refine (spanValid_yes _ _ _ V1.out).mono ?_); rintro e w1 ⟨rfl, hb⟩; replace hx := hx.below hb; clear hb; (try clear hf hg hc0 hc1 rv ru); (have hf := hx.1.2; simp only [List.forall_mem_cons, List.not_mem_nil, false_imp_iff, implies_true, and_true] at hf; obtain ⟨rv, ru, hg, hc0, hc1⟩ := hx.facts)) | (go_at_call 44; refine (within_yes _ _ _ ?_).mono ?_; (omega); rintro e w' ⟨rfl, rfl⟩) | (go_at_call 44; refine (within_no _ _ _ ?_).mono ?_; (omega); rintro e w' ⟨rfl, rfl⟩) | (go_at_call 50; (with_reducible refine (checked_any _ _ _).mono ?_); rintro e w1 ⟨rfl, hb⟩; replace hx := hx.below hb; clear hb; (try clear hf hg hc0 hc1 rv ru); (have hf := hx.1.2; simp only [List.forall_mem_cons, List.not_mem_nil, false_imp_iff, implies_true, and_true] at hf; obtain ⟨rv, ru, hg, hc0, hc1⟩ := hx.facts)))
        (obtain ⟨e0, e1, hb9⟩ := hx.done (.int .i64 ((Fx.good (b * n) (a * n)).1)) (.int .i64 ((Fx.good (b * n) (a * n)).2.1)); (try simp only [Exit.inBlock, Exit.then]); exact bodyPost_ret (v := .tuple #[.agg #[.int .i64 (Fx.good (b * n) (a * n)).1, .int .i64 (Fx.good (b * n) (a * n)).2.1], .bool (Fx.good (b * n) (a * n)).2.2]) (by simp [results, Try.results34, go_sem, e0, e1]) rfl ⟨rfl, hb9⟩)
      · go_enter Try.func34, Try.ntmps34
        go_wp2_with (first | (go_at_call 18; (with_reducible refine (spanValid_yes _ _ _ V1.out).mono ?_); rintro e w1 ⟨rfl, hb⟩; replace hx := hx.below hb; clear hb; (try clear hf hg hc0 hc1 rv ru); (have hf := hx.1.2; simp only [List.forall_mem_cons, List.not_mem_nil, false_imp_iff, implies_true, and_true] at hf; obtain ⟨rv, ru, hg, hc0, hc1⟩ := hx.facts)) | (go_at_call 44; refine (within_yes _ _ _ ?_).mono ?_; (omega); rintro e w' ⟨rfl, rfl⟩) | (go_at_call 44; refine (within_no _ _ _ ?_).mono ?_; (omega); rintro e w' ⟨rfl, rfl⟩) | (go_at_call 50; (with_reducible refine (checked_any _ _ _).mono ?_); rintro e w1 ⟨rfl, hb⟩; replace hx := hx.below hb; clear hb; (try clear hf hg hc0 hc1 rv ru); (have hf := hx.1.2; simp only [List.forall_mem_cons, List.not_mem_nil, false_imp_iff, implies_true, and_true] at hf; obtain ⟨rv, ru, hg, hc0, hc1⟩ := hx.facts)))
        (obtain ⟨e0, e1, hb9⟩ := hx.done (.int .i64 ((Fx.good (a * n) (b * n)).1)) (.int .i64 ((Fx.good (a * n) (b * n)).2.1)); (try simp only [Exit.inBlock, Exit.then]); exact bodyPost_ret (v := .tuple #[.agg #[.int .i64 (Fx.good (a * n) (b * n)).1, .int .i64 (Fx.good (a * n) (b * n)).2.1], .bool (Fx.good (a * n) (b * n)).2.2]) (by simp [results, Try.results34, go_sem, e0, e1]) rfl ⟨rfl, hb9⟩)
      · have k3 : b * n = a * n := by omega
        go_enter Try.func34, Try.ntmps34
        go_wp2_with (first | (go_at_call 18; (with_reducible refine (spanValid_yes _ _ _ V1.out).mono ?_); rintro e w1 ⟨rfl, hb⟩; replace hx := hx.below hb; clear hb; (try clear hf hg hc0 hc1 rv ru); (have hf := hx.1.2; simp only [List.forall_mem_cons, List.not_mem_nil, false_imp_iff, implies_true, and_true] at hf; obtain ⟨rv, ru, hg, hc0, hc1⟩ := hx.facts)) | (go_at_call 44; refine (within_yes _ _ _ ?_).mono ?_; (omega); rintro e w' ⟨rfl, rfl⟩) | (go_at_call 44; refine (within_no _ _ _ ?_).mono ?_; (omega); rintro e w' ⟨rfl, rfl⟩) | (go_at_call 50; (with_reducible refine (checked_any _ _ _).mono ?_); rintro e w1 ⟨rfl, hb⟩; replace hx := hx.below hb; clear hb; (try clear hf hg hc0 hc1 rv ru); (have hf := hx.1.2; simp only [List.forall_mem_cons, List.not_mem_nil, false_imp_iff, implies_true, and_true] at hf; obtain ⟨rv, ru, hg, hc0, hc1⟩ := hx.facts)))
        (obtain ⟨e0, e1, hb9⟩ := hx.done (.int .i64 ((Fx.good (a * n) (a * n)).1)) (.int .i64 ((Fx.good (a * n) (a * n)).2.1)); (try simp only [Exit.inBlock, Exit.then]); exact bodyPost_ret (v := .tuple #[.agg #[.int .i64 (Fx.good (a * n) (a * n)).1, .int .i64 (Fx.good (a * n) (a * n)).2.1], .bool (Fx.good (a * n) (a * n)).2.2]) (by simp [results, Try.results34, go_sem, e0, e1]) rfl ⟨rfl, hb9⟩)
    · have e : Fx.spanTimes a b n = (0, 0, false) := if_neg (fun k => v2 k.2)
      simp only [e]
      have V1 := Lib.hid v1
      clear v1 e
      (have hf := hx.1.2; simp only [List.forall_mem_cons, List.not_mem_nil, false_imp_iff, implies_true, and_true] at hf; obtain ⟨rv, ru, hg, hc0, hc1⟩ := hx.facts)
      go_enter Try.func34, Try.ntmps34
      go_wp2_with (first | (go_at_call 18; (with_reducible refine (spanValid_yes _ _ _ V1.out).mono ?_); rintro e w1 ⟨rfl, hb⟩; replace hx := hx.below hb; clear hb; (try clear hf hg hc0 hc1 rv ru); (have hf := hx.1.2; simp only [List.forall_mem_cons, List.not_mem_nil, false_imp_iff, implies_true, and_true] at hf; obtain ⟨rv, ru, hg, hc0, hc1⟩ := hx.facts)) | (go_at_call 44; refine (within_yes _ _ _ ?_).mono ?_; (omega); rintro e w' ⟨rfl, rfl⟩) | (go_at_call 44; refine (within_no _ _ _ ?_).mono ?_; (omega); rintro e w' ⟨rfl, rfl⟩))
      (obtain ⟨e0, e1, hb9⟩ := hx.done (.int .i64 (0)) (.int .i64 (0)); (try simp only [Exit.inBlock, Exit.then]); exact bodyPost_ret (v := .tuple #[.agg #[.int .i64 0, .int .i64 0], .bool false]) (by simp [results, Try.results34, go_sem, e0, e1]) rfl ⟨rfl, hb9⟩)
  · have e : Fx.spanTimes a b n = (0, 0, false) := if_neg (fun k => v1 k.1)
    simp only [e]
    have V1 := Lib.hid v1
    clear v1 e
    (have hf := hx.1.2; simp only [List.forall_mem_cons, List.not_mem_nil, false_imp_iff, implies_true, and_true] at hf; obtain ⟨rv, ru, hg, hc0, hc1⟩ := hx.facts)
    go_enter Try.func34, Try.ntmps34
    go_wp2_with (first | (go_at_call 18; (with_reducible refine (spanValid_no _ _ _ V1.out).mono ?_); rintro e w1 ⟨rfl, hb⟩; replace hx := hx.below hb; clear hb; (try clear hf hg hc0 hc1 rv ru); (have hf := hx.1.2; simp only [List.forall_mem_cons, List.not_mem_nil, false_imp_iff, implies_true, and_true] at hf; obtain ⟨rv, ru, hg, hc0, hc1⟩ := hx.facts)))
    (obtain ⟨e0, e1, hb9⟩ := hx.done (.int .i64 (0)) (.int .i64 (0)); (try simp only [Exit.inBlock, Exit.then]); exact bodyPost_ret (v := .tuple #[.agg #[.int .i64 0, .int .i64 0], .bool false]) (by simp [results, Try.results34, go_sem, e0, e1]) rfl ⟨rfl, hb9⟩)

set_option maxHeartbeats 4000000 in
theorem s_spanTimes_any (a b n : Int) (w : World) :
    Calls Try.prog 35 #[.agg #[.int .i64 a, .int .i64 b], .int .i64 n] w
      fun e w' => e = .returned (.tuple #[.agg #[.int .i64 (Fx.spanTimes a b n).1, .int .i64 (Fx.spanTimes a b n).2.1], .bool (Fx.spanTimes a b n).2.2]) ∧ Below w.heap.size w w' := by
  have hx := holdR1 w (.int .i64 a) (.int .i64 b) 24 24
  by_cases v1 : Fx.svalid a b
  · by_cases v2 : -1000 ≤ n ∧ n ≤ 1000
    · obtain ⟨l, h, hlh, e1, e2⟩ := times_cases (a * n) (b * n)
      have e : Fx.spanTimes a b n = Fx.good l h := by rw [← e1, ← e2]; exact if_pos ⟨v1, v2⟩
      simp only [e]
      have V1 := Lib.hid v1
      have p1 := times_bounds v1.1 v2
      have p2 := times_bounds v1.2.1 v2
      clear v1 e e1 e2
      have hc1 : n * a = a * n := Int.mul_comm n a
      have hc2 : n * b = b * n := Int.mul_comm n b
      (have hf := hx.1.2; simp only [List.forall_mem_cons, List.not_mem_nil, false_imp_iff, implies_true, and_true] at hf; obtain ⟨rv, ru, hg, hc0, hc1⟩ := hx.facts)
      rcases hlh with ⟨k1, k2, rfl, rfl⟩ | ⟨k1, k2, rfl, rfl⟩ | ⟨k1, k2, rfl, rfl⟩
      · go_enter Try.func35, Try.ntmps35
        go_wp2_with (first | (go_at_call 16; (with_reducible refine (s_spanValid_yes _ _ _ V1.out).mono ?_); rintro e w1 ⟨rfl, hb⟩; replace hx := hx.below hb; clear hb; (try clear hf hg hc0 hc1 rv ru); (have hf := hx.1.2; simp only [List.forall_mem_cons, List.not_mem_nil, false_imp_iff, implies_true, and_true] at hf; obtain ⟨rv, ru, hg, hc0, hc1⟩ := hx.facts)) | (go_at_call 42; refine (l1In_yes _ _ _ _ ?_).mono ?_; (omega); rintro e w' ⟨rfl, rfl⟩) | (go_at_call 42; refine (l1In_no _ _ _ _ ?_).mono ?_; (omega); rintro e w' ⟨rfl, rfl⟩) | (go_at_call 45; (with_reducible refine (l7Good_any _ _ _).mono ?_); rintro e w1 ⟨rfl, hb⟩; replace hx := hx.below hb; clear hb; (try clear hf hg hc0 hc1 rv ru); (have hf := hx.1.2; simp only [List.forall_mem_cons, List.not_mem_nil, false_imp_iff, implies_true, and_true] at hf; obtain ⟨rv, ru, hg, hc0, hc1⟩ := hx.facts)))
        (obtain ⟨e0, e1, hb9⟩ := hx.done (.int .i64 ((Fx.good (b * n) (a * n)).1)) (.int .i64 ((Fx.good (b * n) (a * n)).2.1)); (try simp only [Exit.inBlock, Exit.then]); exact bodyPost_ret (v := .tuple #[.agg #[.int .i64 (Fx.good (b * n) (a * n)).1, .int .i64 (Fx.good (b * n) (a * n)).2.1], .bool (Fx.good (b * n) (a * n)).2.2]) (by simp [results, Try.results35, go_sem, e0, e1]) rfl ⟨rfl, hb9⟩)
      · go_enter Try.func35, Try.ntmps35
        go_wp2_with (first | (go_at_call 16; (with_reducible refine (s_spanValid_yes _ _ _ V1.out).mono ?_); rintro e w1 ⟨rfl, hb⟩; replace hx := hx.below hb; clear hb; (try clear hf hg hc0 hc1 rv ru); (have hf := hx.1.2; simp only [List.forall_mem_cons, List.not_mem_nil, false_imp_iff, implies_true, and_true] at hf; obtain ⟨rv, ru, hg, hc0, hc1⟩ := hx.facts)) | (go_at_call 42; refine (l1In_yes _ _ _ _ ?_).mono ?_; (omega); rintro e w' ⟨rfl, rfl⟩) | (go_at_call 42; refine (l1In_no _ _ _ _ ?_).mono ?_; (omega); rintro e w' ⟨rfl, rfl⟩) | (go_at_call 45; (with_reducible refine (l7Good_any _ _ _).mono ?_); rintro e w1 ⟨rfl, hb⟩; replace hx := hx.below hb; clear hb; (try clear hf hg hc0 hc1 rv ru); (have hf := hx.1.2; simp only [List.forall_mem_cons, List.not_mem_nil, false_imp_iff, implies_true, and_true] at hf; obtain ⟨rv, ru, hg, hc0, hc1⟩ := hx.facts)))
        (obtain ⟨e0, e1, hb9⟩ := hx.done (.int .i64 ((Fx.good (a * n) (b * n)).1)) (.int .i64 ((Fx.good (a * n) (b * n)).2.1)); (try simp only [Exit.inBlock, Exit.then]); exact bodyPost_ret (v := .tuple #[.agg #[.int .i64 (Fx.good (a * n) (b * n)).1, .int .i64 (Fx.good (a * n) (b * n)).2.1], .bool (Fx.good (a * n) (b * n)).2.2]) (by simp [results, Try.results35, go_sem, e0, e1]) rfl ⟨rfl, hb9⟩)
      · have k3 : b * n = a * n := by omega
        go_enter Try.func35, Try.ntmps35
        go_wp2_with (first | (go_at_call 16; (with_reducible refine (s_spanValid_yes _ _ _ V1.out).mono ?_); rintro e w1 ⟨rfl, hb⟩; replace hx := hx.below hb; clear hb; (try clear hf hg hc0 hc1 rv ru); (have hf := hx.1.2; simp only [List.forall_mem_cons, List.not_mem_nil, false_imp_iff, implies_true, and_true] at hf; obtain ⟨rv, ru, hg, hc0, hc1⟩ := hx.facts)) | (go_at_call 42; refine (l1In_yes _ _ _ _ ?_).mono ?_; (omega); rintro e w' ⟨rfl, rfl⟩) | (go_at_call 42; refine (l1In_no _ _ _ _ ?_).mono ?_; (omega); rintro e w' ⟨rfl, rfl⟩) | (go_at_call 45; (with_reducible refine (l7Good_any _ _ _).mono ?_); rintro e w1 ⟨rfl, hb⟩; replace hx := hx.below hb; clear hb; (try clear hf hg hc0 hc1 rv ru); (have hf := hx.1.2; simp only [List.forall_mem_cons, List.not_mem_nil, false_imp_iff, implies_true, and_true] at hf; obtain ⟨rv, ru, hg, hc0, hc1⟩ := hx.facts)))
        (obtain ⟨e0, e1, hb9⟩ := hx.done (.int .i64 ((Fx.good (a * n) (a * n)).1)) (.int .i64 ((Fx.good (a * n) (a * n)).2.1)); (try simp only [Exit.inBlock, Exit.then]); exact bodyPost_ret (v := .tuple #[.agg #[.int .i64 (Fx.good (a * n) (a * n)).1, .int .i64 (Fx.good (a * n) (a * n)).2.1], .bool (Fx.good (a * n) (a * n)).2.2]) (by simp [results, Try.results35, go_sem, e0, e1]) rfl ⟨rfl, hb9⟩)
    · have e : Fx.spanTimes a b n = (0, 0, false) := if_neg (fun k => v2 k.2)
      simp only [e]
      have V1 := Lib.hid v1
      clear v1 e
      (have hf := hx.1.2; simp only [List.forall_mem_cons, List.not_mem_nil, false_imp_iff, implies_true, and_true] at hf; obtain ⟨rv, ru, hg, hc0, hc1⟩ := hx.facts)
      go_enter Try.func35, Try.ntmps35
      go_wp2_with (first | (go_at_call 16; (with_reducible refine (s_spanValid_yes _ _ _ V1.out).mono ?_); rintro e w1 ⟨rfl, hb⟩; replace hx := hx.below hb; clear hb; (try clear hf hg hc0 hc1 rv ru); (have hf := hx.1.2; simp only [List.forall_mem_cons, List.not_mem_nil, false_imp_iff, implies_true, and_true] at hf; obtain ⟨rv, ru, hg, hc0, hc1⟩ := hx.facts)) | (go_at_call 42; refine (l1In_yes _ _ _ _ ?_).mono ?_; (omega); rintro e w' ⟨rfl, rfl⟩) | (go_at_call 42; refine (l1In_no _ _ _ _ ?_).mono ?_; (omega); rintro e w' ⟨rfl, rfl⟩))
      (obtain ⟨e0, e1, hb9⟩ := hx.done (.int .i64 (0)) (.int .i64 (0)); (try simp only [Exit.inBlock, Exit.then]); exact bodyPost_ret (v := .tuple #[.agg #[.int .i64 0, .int .i64 0], .bool false]) (by simp [results, Try.results35, go_sem, e0, e1]) rfl ⟨rfl, hb9⟩)
  · have e : Fx.spanTimes a b n = (0, 0, false) := if_neg (fun k => v1 k.1)
    simp only [e]
    have V1 := Lib.hid v1
    clear v1 e
    (have hf := hx.1.2; simp only [List.forall_mem_cons, List.not_mem_nil, false_imp_iff, implies_true, and_true] at hf; obtain ⟨rv, ru, hg, hc0, hc1⟩ := hx.facts)
    go_enter Try.func35, Try.ntmps35
    go_wp2_with (first | (go_at_call 16; (with_reducible refine (s_spanValid_no _ _ _ V1.out).mono ?_); rintro e w1 ⟨rfl, hb⟩; replace hx := hx.below hb; clear hb; (try clear hf hg hc0 hc1 rv ru); (have hf := hx.1.2; simp only [List.forall_mem_cons, List.not_mem_nil, false_imp_iff, implies_true, and_true] at hf; obtain ⟨rv, ru, hg, hc0, hc1⟩ := hx.facts)))
    (obtain ⟨e0, e1, hb9⟩ := hx.done (.int .i64 (0)) (.int .i64 (0)); (try simp only [Exit.inBlock, Exit.then]); exact bodyPost_ret (v := .tuple #[.agg #[.int .i64 0, .int .i64 0], .bool false]) (by simp [results, Try.results35, go_sem, e0, e1]) rfl ⟨rfl, hb9⟩)

set_option maxHeartbeats 4000000 in
set_option linter.unusedSimpArgs false in
theorem fractionSpan_any (n d : Int) (w : World) :
    Calls Try.prog 31 #[.int .i64 n, .int .i64 d] w
      fun e w' => e = .returned (.tuple #[.agg #[.int .i64 (Fx.fractionSpan n d).1, .int .i64 (Fx.fractionSpan n d).2.1], .bool (Fx.fractionSpan n d).2.2]) ∧ Below w.heap.size w w' := by
  have hx := holdR0 w 24
  by_cases v : (-1073741824 ≤ n ∧ n ≤ 1073741824) ∧ 1 ≤ d ∧ d ≤ 1073741824
  · have e : Fx.fractionSpan n d = Fx.good (n * 268435456 / d) (-(-(n * 268435456) / d)) := if_pos v
    simp only [e]
    have E1 : Fx.floorDiv (n * 268435456) d = n * 268435456 / d := Fx.floorDiv_in _ _ (by unfold Fx.Work; omega) (by omega) (by omega)
    have E2 : Fx.floorDiv (-(n * 268435456)) d = -(n * 268435456) / d := Fx.floorDiv_in _ _ (by unfold Fx.Work; omega) (by omega) (by omega)
    clear e
    (have hf := hx.1.2; simp only [List.forall_mem_cons, List.not_mem_nil, false_imp_iff, implies_true, and_true] at hf; obtain ⟨rv, ru, hg, hc0, hc1⟩ := hx.facts)
    go_enter Try.func31, Try.ntmps31
    go_wp2_with (first | (go_at_call 48; refine (floorDiv_any _ _ _).mono ?_; rintro e w' ⟨rfl, rfl⟩) | (go_at_call 49; refine (ceilDiv_any _ _ _ (by omega)).mono ?_; rintro e w' ⟨rfl, rfl⟩) | (go_at_call 44; refine (within_yes _ _ _ ?_).mono ?_; (omega); rintro e w' ⟨rfl, rfl⟩) | (go_at_call 44; refine (within_no _ _ _ ?_).mono ?_; (omega); rintro e w' ⟨rfl, rfl⟩) | (go_at_call 50; (with_reducible refine (checked_any _ _ _).mono ?_); rintro e w1 ⟨rfl, hb⟩; replace hx := hx.below hb; clear hb; (try clear hf hg hc0 hc1 rv ru); (have hf := hx.1.2; simp only [List.forall_mem_cons, List.not_mem_nil, false_imp_iff, implies_true, and_true] at hf; obtain ⟨rv, ru, hg, hc0, hc1⟩ := hx.facts)))
    (obtain ⟨e0, e1, hb9⟩ := hx.done (.int .i64 ((Fx.good (n * 268435456 / d) (-(-(n * 268435456) / d))).1)) (.int .i64 ((Fx.good (n * 268435456 / d) (-(-(n * 268435456) / d))).2.1)); (try simp only [Exit.inBlock, Exit.then]); exact bodyPost_ret (v := .tuple #[.agg #[.int .i64 (Fx.good (n * 268435456 / d) (-(-(n * 268435456) / d))).1, .int .i64 (Fx.good (n * 268435456 / d) (-(-(n * 268435456) / d))).2.1], .bool (Fx.good (n * 268435456 / d) (-(-(n * 268435456) / d))).2.2]) (by simp [results, Try.results31, go_sem, e0, e1]) rfl ⟨rfl, hb9⟩)
  · have e : Fx.fractionSpan n d = (0, 0, false) := if_neg v
    simp only [e]
    clear e
    (have hf := hx.1.2; simp only [List.forall_mem_cons, List.not_mem_nil, false_imp_iff, implies_true, and_true] at hf; obtain ⟨rv, ru, hg, hc0, hc1⟩ := hx.facts)
    have hc : (n < -1073741824 ∨ 1073741824 < n) ∨ ((-1073741824 ≤ n ∧ n ≤ 1073741824) ∧ d < 1) ∨ ((-1073741824 ≤ n ∧ n ≤ 1073741824) ∧ 1 ≤ d ∧ 1073741824 < d) := by omega
    clear v
    rcases hc with hc | ⟨hc, hd⟩ | ⟨hc, hd, he⟩
    all_goals
      go_enter Try.func31, Try.ntmps31
      go_wp2_with (first | (go_at_call 48; refine (floorDiv_any _ _ _).mono ?_; rintro e w' ⟨rfl, rfl⟩) | (go_at_call 49; refine (ceilDiv_any _ _ _ (by omega)).mono ?_; rintro e w' ⟨rfl, rfl⟩) | (go_at_call 44; refine (within_yes _ _ _ ?_).mono ?_; (omega); rintro e w' ⟨rfl, rfl⟩) | (go_at_call 44; refine (within_no _ _ _ ?_).mono ?_; (omega); rintro e w' ⟨rfl, rfl⟩))
      (try simp only [Exit.inBlock, Exit.then])
      refine bodyPost_ret (v := .tuple #[.agg #[.int .i64 0, .int .i64 0], .bool false]) (by simp [results, Try.results31, go_sem]) rfl ⟨rfl, by go_grown⟩

set_option maxHeartbeats 4000000 in
set_option linter.unusedSimpArgs false in
theorem s_fractionSpan_any (n d : Int) (w : World) :
    Calls Try.prog 32 #[.int .i64 n, .int .i64 d] w
      fun e w' => e = .returned (.tuple #[.agg #[.int .i64 (Fx.fractionSpan n d).1, .int .i64 (Fx.fractionSpan n d).2.1], .bool (Fx.fractionSpan n d).2.2]) ∧ Below w.heap.size w w' := by
  have hx := holdR0 w 24
  by_cases v : (-1073741824 ≤ n ∧ n ≤ 1073741824) ∧ 1 ≤ d ∧ d ≤ 1073741824
  · have e : Fx.fractionSpan n d = Fx.good (n * 268435456 / d) (-(-(n * 268435456) / d)) := if_pos v
    simp only [e]
    clear e
    (have hf := hx.1.2; simp only [List.forall_mem_cons, List.not_mem_nil, false_imp_iff, implies_true, and_true] at hf; obtain ⟨rv, ru, hg, hc0, hc1⟩ := hx.facts)
    go_enter Try.func32, Try.ntmps32
    go_wp2_with (first | (go_at_call 46; refine (l1Floor_any _ _ _ ?_ ?_).mono ?_; omega; omega; rintro e w' ⟨rfl, rfl⟩) | (go_at_call 47; refine (l7Ceil_any _ _ _ ?_ ?_).mono ?_; omega; omega; rintro e w' ⟨rfl, rfl⟩) | (go_at_call 42; refine (l1In_yes _ _ _ _ ?_).mono ?_; (omega); rintro e w' ⟨rfl, rfl⟩) | (go_at_call 42; refine (l1In_no _ _ _ _ ?_).mono ?_; (omega); rintro e w' ⟨rfl, rfl⟩) | (go_at_call 45; (with_reducible refine (l7Good_any _ _ _).mono ?_); rintro e w1 ⟨rfl, hb⟩; replace hx := hx.below hb; clear hb; (try clear hf hg hc0 hc1 rv ru); (have hf := hx.1.2; simp only [List.forall_mem_cons, List.not_mem_nil, false_imp_iff, implies_true, and_true] at hf; obtain ⟨rv, ru, hg, hc0, hc1⟩ := hx.facts)))
    (obtain ⟨e0, e1, hb9⟩ := hx.done (.int .i64 ((Fx.good (n * 268435456 / d) (-(-(n * 268435456) / d))).1)) (.int .i64 ((Fx.good (n * 268435456 / d) (-(-(n * 268435456) / d))).2.1)); (try simp only [Exit.inBlock, Exit.then]); exact bodyPost_ret (v := .tuple #[.agg #[.int .i64 (Fx.good (n * 268435456 / d) (-(-(n * 268435456) / d))).1, .int .i64 (Fx.good (n * 268435456 / d) (-(-(n * 268435456) / d))).2.1], .bool (Fx.good (n * 268435456 / d) (-(-(n * 268435456) / d))).2.2]) (by simp [results, Try.results32, go_sem, e0, e1]) rfl ⟨rfl, hb9⟩)
  · have e : Fx.fractionSpan n d = (0, 0, false) := if_neg v
    simp only [e]
    clear e
    (have hf := hx.1.2; simp only [List.forall_mem_cons, List.not_mem_nil, false_imp_iff, implies_true, and_true] at hf; obtain ⟨rv, ru, hg, hc0, hc1⟩ := hx.facts)
    have hc : (n < -1073741824 ∨ 1073741824 < n) ∨ ((-1073741824 ≤ n ∧ n ≤ 1073741824) ∧ d < 1) ∨ ((-1073741824 ≤ n ∧ n ≤ 1073741824) ∧ 1 ≤ d ∧ 1073741824 < d) := by omega
    clear v
    rcases hc with hc | ⟨hc, hd⟩ | ⟨hc, hd, he⟩
    all_goals
      go_enter Try.func32, Try.ntmps32
      go_wp2_with (first | (go_at_call 46; refine (l1Floor_any _ _ _ ?_ ?_).mono ?_; omega; omega; rintro e w' ⟨rfl, rfl⟩) | (go_at_call 47; refine (l7Ceil_any _ _ _ ?_ ?_).mono ?_; omega; omega; rintro e w' ⟨rfl, rfl⟩) | (go_at_call 42; refine (l1In_yes _ _ _ _ ?_).mono ?_; (omega); rintro e w' ⟨rfl, rfl⟩) | (go_at_call 42; refine (l1In_no _ _ _ _ ?_).mono ?_; (omega); rintro e w' ⟨rfl, rfl⟩))
      (try simp only [Exit.inBlock, Exit.then])
      refine bodyPost_ret (v := .tuple #[.agg #[.int .i64 0, .int .i64 0], .bool false]) (by simp [results, Try.results32, go_sem]) rfl ⟨rfl, by go_grown⟩

end Go.Proofs.Ytkogpcabemklhaa
