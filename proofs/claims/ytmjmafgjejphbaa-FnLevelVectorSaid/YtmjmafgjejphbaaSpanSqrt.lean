/-
  The walks of roots of spans.
-/
import Derived.Test.YtmjmafgjejphbaaSpan
import Derived.Test.YtmjmafgjejphbaaSqrt
import Derived.Test.YtmjmafgjejphbaaMathS3
namespace Go.Proofs.Ytmjmafgjejphbaa
open Go.RowKit

theorem sqrt_facts {a b : Int} (v : Fx.svalid a b) (h0 : 0 ≤ a) : ∃ X r : Int, Fx.sqrtFloor (a * 268435456) = X ∧ Fx.sqrtFloor (b * 268435456) = r ∧ Fx.isqrt (a * 268435456) = X ∧ Fx.isqrt (b * 268435456) = r ∧ (0 ≤ X ∧ X ≤ 1073741823) ∧ (0 ≤ r ∧ r ≤ 1073741823) ∧ (0 ≤ r * r ∧ r * r ≤ 1152921504606846976) ∧
    (r * r < b * 268435456 → Fx.spanSqrt a b = (X, r + 1, true) ∧ Fx.svalid X (r + 1)) ∧ (¬ r * r < b * 268435456 → Fx.spanSqrt a b = (X, r, true) ∧ Fx.svalid X r) := by
  have v' := v
  unfold Fx.svalid at v'
  have e : Fx.spanSqrt a b = (Fx.isqrt (a * 268435456), Fx.ceilSqrt (b * 268435456), true) := if_pos ⟨v, h0⟩
  obtain ⟨-, -, w, -, -, -, -, -⟩ := Fx.sqrt_law e
  obtain ⟨s0, s1, s2⟩ := Fx.isqrt_spec (a * 268435456) (by omega) (by omega)
  obtain ⟨t0, t1, t2⟩ := Fx.isqrt_spec (b * 268435456) (by omega) (by omega)
  have u1 : Fx.isqrt (a * 268435456) < 1073741824 := Fx.sq_lt (by omega) (by omega)
  have u2 : Fx.isqrt (b * 268435456) < 1073741824 := Fx.sq_lt (by omega) (by omega)
  have p := Int.mul_nonneg t0 t0
  refine ⟨_, _, Fx.sqrtFloor_in _ (by omega) (by omega), Fx.sqrtFloor_in _ (by omega) (by omega), rfl, rfl, ⟨s0, by omega⟩, ⟨t0, by omega⟩, ⟨p, by omega⟩, ?_, ?_⟩
  · intro hc
    have ec : Fx.ceilSqrt (b * 268435456) = Fx.isqrt (b * 268435456) + 1 := if_pos hc
    rw [ec] at e w
    exact ⟨e, w⟩
  · intro hc
    have ec : Fx.ceilSqrt (b * 268435456) = Fx.isqrt (b * 268435456) := if_neg hc
    rw [ec] at e w
    exact ⟨e, w⟩

set_option maxHeartbeats 2000000 in
theorem spanSqrt_any (a b : Int) (w : World) :
    Calls Try.prog 93 #[.agg #[.int .i64 a, .int .i64 b]] w
      fun e w' => e = .returned (.tuple #[.agg #[.int .i64 (Fx.spanSqrt a b).1, .int .i64 (Fx.spanSqrt a b).2.1], .bool (Fx.spanSqrt a b).2.2]) ∧ Below w.heap.size w w' := by
  have hx := holdR1 w (.int .i64 a) (.int .i64 b) 31 31
  by_cases v1 : Fx.svalid a b
  · have V1 := Lib.hid v1
    have hb1 : (-1073741824 ≤ a ∧ a ≤ 1073741824) ∧ (-1073741824 ≤ b ∧ b ≤ 1073741824) ∧ a ≤ b := v1
    by_cases h0 : 0 ≤ a
    · obtain ⟨X, r, e1, e2, -, -, hX, hr, hrr, k1, k2⟩ := sqrt_facts v1 h0
      have C1 : ∀ w, Calls Try.prog 110 #[.int .i64 (a * 268435456)] w fun e w' => e = .returned (.int .i64 X) ∧ w = w' := by
        intro w; rw [← e1]; exact sqrtFloor_any _ _
      have C2 : ∀ w, Calls Try.prog 110 #[.int .i64 (b * 268435456)] w fun e w' => e = .returned (.int .i64 r) ∧ w = w' := by
        intro w; rw [← e2]; exact sqrtFloor_any _ _
      clear e1 e2 v1
      by_cases hc : r * r < b * 268435456
      · obtain ⟨e, g⟩ := k1 hc
        simp only [e]
        have G := fun w => checked_any X (r + 1) w
        simp only [Fx.good_yes g] at G
        clear k1 k2 e g
        (have hf := hx.1.2; simp only [List.forall_mem_cons, List.not_mem_nil, false_imp_iff, implies_true, and_true] at hf; obtain ⟨rv, ru, hg, hc0, hc1⟩ := hx.facts)
        go_enter Try.func93, Try.ntmps93
        go_wp2_with (first | (go_at_call 39; (with_reducible refine (spanValid_yes _ _ _ V1.out).mono ?_); rintro e w1 ⟨rfl, hb⟩; replace hx := hx.below hb; clear hb; (try clear hf hg hc0 hc1 rv ru); (have hf := hx.1.2; simp only [List.forall_mem_cons, List.not_mem_nil, false_imp_iff, implies_true, and_true] at hf; obtain ⟨rv, ru, hg, hc0, hc1⟩ := hx.facts)) | (go_at_call 110; (with_reducible refine (C1 _).mono ?_); rintro e w' ⟨rfl, rfl⟩) | (go_at_call 110; (with_reducible refine (C2 _).mono ?_); rintro e w' ⟨rfl, rfl⟩) | (go_at_call 89; (with_reducible refine (G _).mono ?_); rintro e w1 ⟨rfl, hb⟩; replace hx := hx.below hb; clear hb; (try clear hf hg hc0 hc1 rv ru); (have hf := hx.1.2; simp only [List.forall_mem_cons, List.not_mem_nil, false_imp_iff, implies_true, and_true] at hf; obtain ⟨rv, ru, hg, hc0, hc1⟩ := hx.facts)))
        (obtain ⟨e0, e1, hb9⟩ := hx.done (.int .i64 (X)) (.int .i64 (r + 1)); (try simp only [Exit.inBlock, Exit.then]); exact bodyPost_ret (v := .tuple #[.agg #[.int .i64 X, .int .i64 (r + 1)], .bool true]) (by simp [results, Try.results93, go_sem, e0, e1]) rfl ⟨rfl, hb9⟩)
      · obtain ⟨e, g⟩ := k2 hc
        simp only [e]
        have G := fun w => checked_any X r w
        simp only [Fx.good_yes g] at G
        clear k1 k2 e g
        (have hf := hx.1.2; simp only [List.forall_mem_cons, List.not_mem_nil, false_imp_iff, implies_true, and_true] at hf; obtain ⟨rv, ru, hg, hc0, hc1⟩ := hx.facts)
        go_enter Try.func93, Try.ntmps93
        go_wp2_with (first | (go_at_call 39; (with_reducible refine (spanValid_yes _ _ _ V1.out).mono ?_); rintro e w1 ⟨rfl, hb⟩; replace hx := hx.below hb; clear hb; (try clear hf hg hc0 hc1 rv ru); (have hf := hx.1.2; simp only [List.forall_mem_cons, List.not_mem_nil, false_imp_iff, implies_true, and_true] at hf; obtain ⟨rv, ru, hg, hc0, hc1⟩ := hx.facts)) | (go_at_call 110; (with_reducible refine (C1 _).mono ?_); rintro e w' ⟨rfl, rfl⟩) | (go_at_call 110; (with_reducible refine (C2 _).mono ?_); rintro e w' ⟨rfl, rfl⟩) | (go_at_call 89; (with_reducible refine (G _).mono ?_); rintro e w1 ⟨rfl, hb⟩; replace hx := hx.below hb; clear hb; (try clear hf hg hc0 hc1 rv ru); (have hf := hx.1.2; simp only [List.forall_mem_cons, List.not_mem_nil, false_imp_iff, implies_true, and_true] at hf; obtain ⟨rv, ru, hg, hc0, hc1⟩ := hx.facts)))
        (obtain ⟨e0, e1, hb9⟩ := hx.done (.int .i64 (X)) (.int .i64 (r)); (try simp only [Exit.inBlock, Exit.then]); exact bodyPost_ret (v := .tuple #[.agg #[.int .i64 X, .int .i64 r], .bool true]) (by simp [results, Try.results93, go_sem, e0, e1]) rfl ⟨rfl, hb9⟩)
    · have e : Fx.spanSqrt a b = (0, 0, false) := if_neg (fun k => h0 k.2)
      simp only [e]
      clear v1 e
      (have hf := hx.1.2; simp only [List.forall_mem_cons, List.not_mem_nil, false_imp_iff, implies_true, and_true] at hf; obtain ⟨rv, ru, hg, hc0, hc1⟩ := hx.facts)
      go_enter Try.func93, Try.ntmps93
      go_wp2_with (first | (go_at_call 39; (with_reducible refine (spanValid_yes _ _ _ V1.out).mono ?_); rintro e w1 ⟨rfl, hb⟩; replace hx := hx.below hb; clear hb; (try clear hf hg hc0 hc1 rv ru); (have hf := hx.1.2; simp only [List.forall_mem_cons, List.not_mem_nil, false_imp_iff, implies_true, and_true] at hf; obtain ⟨rv, ru, hg, hc0, hc1⟩ := hx.facts)))
      (obtain ⟨e0, e1, hb9⟩ := hx.done (.int .i64 (0)) (.int .i64 (0)); (try simp only [Exit.inBlock, Exit.then]); exact bodyPost_ret (v := .tuple #[.agg #[.int .i64 0, .int .i64 0], .bool false]) (by simp [results, Try.results93, go_sem, e0, e1]) rfl ⟨rfl, hb9⟩)
  · have e : Fx.spanSqrt a b = (0, 0, false) := if_neg (fun k => v1 k.1)
    simp only [e]
    have V1 := Lib.hid v1
    clear v1 e
    (have hf := hx.1.2; simp only [List.forall_mem_cons, List.not_mem_nil, false_imp_iff, implies_true, and_true] at hf; obtain ⟨rv, ru, hg, hc0, hc1⟩ := hx.facts)
    go_enter Try.func93, Try.ntmps93
    go_wp2_with (first | (go_at_call 39; (with_reducible refine (spanValid_no _ _ _ V1.out).mono ?_); rintro e w1 ⟨rfl, hb⟩; replace hx := hx.below hb; clear hb; (try clear hf hg hc0 hc1 rv ru); (have hf := hx.1.2; simp only [List.forall_mem_cons, List.not_mem_nil, false_imp_iff, implies_true, and_true] at hf; obtain ⟨rv, ru, hg, hc0, hc1⟩ := hx.facts)))
    (obtain ⟨e0, e1, hb9⟩ := hx.done (.int .i64 (0)) (.int .i64 (0)); (try simp only [Exit.inBlock, Exit.then]); exact bodyPost_ret (v := .tuple #[.agg #[.int .i64 0, .int .i64 0], .bool false]) (by simp [results, Try.results93, go_sem, e0, e1]) rfl ⟨rfl, hb9⟩)

set_option maxHeartbeats 2000000 in
theorem s_spanSqrt_any (a b : Int) (w : World) :
    Calls Try.prog 91 #[.agg #[.int .i64 a, .int .i64 b]] w
      fun e w' => e = .returned (.tuple #[.agg #[.int .i64 (Fx.spanSqrt a b).1, .int .i64 (Fx.spanSqrt a b).2.1], .bool (Fx.spanSqrt a b).2.2]) ∧ Below w.heap.size w w' := by
  have hx := holdR1 w (.int .i64 a) (.int .i64 b) 31 31
  by_cases v1 : Fx.svalid a b
  · have V1 := Lib.hid v1
    have hb1 : (-1073741824 ≤ a ∧ a ≤ 1073741824) ∧ (-1073741824 ≤ b ∧ b ≤ 1073741824) ∧ a ≤ b := v1
    by_cases h0 : 0 ≤ a
    · obtain ⟨X, r, -, -, e1, e2, hX, hr, hrr, k1, k2⟩ := sqrt_facts v1 h0
      have C1 : ∀ w, Calls Try.prog 109 #[.int .i64 (a * 268435456)] w fun e w' => e = .returned (.int .i64 X) ∧ w = w' := by
        intro w; rw [← e1]; exact l2Sqrt_any _ _ (by omega) (by omega)
      have C2 : ∀ w, Calls Try.prog 109 #[.int .i64 (b * 268435456)] w fun e w' => e = .returned (.int .i64 r) ∧ w = w' := by
        intro w; rw [← e2]; exact l2Sqrt_any _ _ (by omega) (by omega)
      clear e1 e2 v1
      by_cases hc : r * r < b * 268435456
      · obtain ⟨e, -⟩ := k1 hc
        simp only [e]
        clear k1 k2 e
        (have hf := hx.1.2; simp only [List.forall_mem_cons, List.not_mem_nil, false_imp_iff, implies_true, and_true] at hf; obtain ⟨rv, ru, hg, hc0, hc1⟩ := hx.facts)
        go_enter Try.func91, Try.ntmps91
        go_wp2_with (first | (go_at_call 107; (with_reducible refine (s_spanValid_yes _ _ _ V1.out).mono ?_); rintro e w1 ⟨rfl, hb⟩; replace hx := hx.below hb; clear hb; (try clear hf hg hc0 hc1 rv ru); (have hf := hx.1.2; simp only [List.forall_mem_cons, List.not_mem_nil, false_imp_iff, implies_true, and_true] at hf; obtain ⟨rv, ru, hg, hc0, hc1⟩ := hx.facts)) | (go_at_call 109; (with_reducible refine (C1 _).mono ?_); rintro e w' ⟨rfl, rfl⟩) | (go_at_call 109; (with_reducible refine (C2 _).mono ?_); rintro e w' ⟨rfl, rfl⟩))
        (obtain ⟨e0, e1, hb9⟩ := hx.done (.int .i64 (X)) (.int .i64 (r + 1)); (try simp only [Exit.inBlock, Exit.then]); exact bodyPost_ret (v := .tuple #[.agg #[.int .i64 X, .int .i64 (r + 1)], .bool true]) (by simp [results, Try.results91, go_sem, e0, e1]) rfl ⟨rfl, hb9⟩)
      · obtain ⟨e, -⟩ := k2 hc
        simp only [e]
        clear k1 k2 e
        (have hf := hx.1.2; simp only [List.forall_mem_cons, List.not_mem_nil, false_imp_iff, implies_true, and_true] at hf; obtain ⟨rv, ru, hg, hc0, hc1⟩ := hx.facts)
        go_enter Try.func91, Try.ntmps91
        go_wp2_with (first | (go_at_call 107; (with_reducible refine (s_spanValid_yes _ _ _ V1.out).mono ?_); rintro e w1 ⟨rfl, hb⟩; replace hx := hx.below hb; clear hb; (try clear hf hg hc0 hc1 rv ru); (have hf := hx.1.2; simp only [List.forall_mem_cons, List.not_mem_nil, false_imp_iff, implies_true, and_true] at hf; obtain ⟨rv, ru, hg, hc0, hc1⟩ := hx.facts)) | (go_at_call 109; (with_reducible refine (C1 _).mono ?_); rintro e w' ⟨rfl, rfl⟩) | (go_at_call 109; (with_reducible refine (C2 _).mono ?_); rintro e w' ⟨rfl, rfl⟩))
        (obtain ⟨e0, e1, hb9⟩ := hx.done (.int .i64 (X)) (.int .i64 (r)); (try simp only [Exit.inBlock, Exit.then]); exact bodyPost_ret (v := .tuple #[.agg #[.int .i64 X, .int .i64 r], .bool true]) (by simp [results, Try.results91, go_sem, e0, e1]) rfl ⟨rfl, hb9⟩)
    · have e : Fx.spanSqrt a b = (0, 0, false) := if_neg (fun k => h0 k.2)
      simp only [e]
      clear v1 e
      (have hf := hx.1.2; simp only [List.forall_mem_cons, List.not_mem_nil, false_imp_iff, implies_true, and_true] at hf; obtain ⟨rv, ru, hg, hc0, hc1⟩ := hx.facts)
      go_enter Try.func91, Try.ntmps91
      go_wp2_with (first | (go_at_call 107; (with_reducible refine (s_spanValid_yes _ _ _ V1.out).mono ?_); rintro e w1 ⟨rfl, hb⟩; replace hx := hx.below hb; clear hb; (try clear hf hg hc0 hc1 rv ru); (have hf := hx.1.2; simp only [List.forall_mem_cons, List.not_mem_nil, false_imp_iff, implies_true, and_true] at hf; obtain ⟨rv, ru, hg, hc0, hc1⟩ := hx.facts)))
      (obtain ⟨e0, e1, hb9⟩ := hx.done (.int .i64 (0)) (.int .i64 (0)); (try simp only [Exit.inBlock, Exit.then]); exact bodyPost_ret (v := .tuple #[.agg #[.int .i64 0, .int .i64 0], .bool false]) (by simp [results, Try.results91, go_sem, e0, e1]) rfl ⟨rfl, hb9⟩)
  · have e : Fx.spanSqrt a b = (0, 0, false) := if_neg (fun k => v1 k.1)
    simp only [e]
    have V1 := Lib.hid v1
    clear v1 e
    (have hf := hx.1.2; simp only [List.forall_mem_cons, List.not_mem_nil, false_imp_iff, implies_true, and_true] at hf; obtain ⟨rv, ru, hg, hc0, hc1⟩ := hx.facts)
    go_enter Try.func91, Try.ntmps91
    go_wp2_with (first | (go_at_call 107; (with_reducible refine (s_spanValid_no _ _ _ V1.out).mono ?_); rintro e w1 ⟨rfl, hb⟩; replace hx := hx.below hb; clear hb; (try clear hf hg hc0 hc1 rv ru); (have hf := hx.1.2; simp only [List.forall_mem_cons, List.not_mem_nil, false_imp_iff, implies_true, and_true] at hf; obtain ⟨rv, ru, hg, hc0, hc1⟩ := hx.facts)))
    (obtain ⟨e0, e1, hb9⟩ := hx.done (.int .i64 (0)) (.int .i64 (0)); (try simp only [Exit.inBlock, Exit.then]); exact bodyPost_ret (v := .tuple #[.agg #[.int .i64 0, .int .i64 0], .bool false]) (by simp [results, Try.results91, go_sem, e0, e1]) rfl ⟨rfl, hb9⟩)

end Go.Proofs.Ytmjmafgjejphbaa
