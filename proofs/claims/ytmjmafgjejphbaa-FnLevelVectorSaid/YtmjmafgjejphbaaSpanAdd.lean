/-
  The walks of operations on spans.
-/
import Derived.Test.YtmjmafgjejphbaaSpan
namespace Go.Proofs.Ytmjmafgjejphbaa
open Go.RowKit

set_option maxHeartbeats 2000000 in
theorem spanAdd_any (a b c d : Int) (w : World) :
    Calls Try.prog 43 #[.agg #[.int .i64 a, .int .i64 b], .agg #[.int .i64 c, .int .i64 d]] w
      fun e w' => e = .returned (.tuple #[.agg #[.int .i64 (Fx.spanAdd a b c d).1, .int .i64 (Fx.spanAdd a b c d).2.1], .bool (Fx.spanAdd a b c d).2.2]) ∧ Below w.heap.size w w' := by
  have hx := holdR2 w (.int .i64 a) (.int .i64 b) (.int .i64 c) (.int .i64 d) 31 31 31
  by_cases v1 : Fx.svalid a b
  · by_cases v2 : Fx.svalid c d
    · have e : Fx.spanAdd a b c d = Fx.good (a + c) (b + d) := if_pos ⟨v1, v2⟩
      simp only [e]
      have hb1 : (-1073741824 ≤ a ∧ a ≤ 1073741824) ∧ -1073741824 ≤ b ∧ b ≤ 1073741824 := ⟨v1.1, v1.2.1⟩
      have hb2 : (-1073741824 ≤ c ∧ c ≤ 1073741824) ∧ -1073741824 ≤ d ∧ d ≤ 1073741824 := ⟨v2.1, v2.2.1⟩
      have V1 := Lib.hid v1
      have V2 := Lib.hid v2
      clear v1 v2 e
      (have hf := hx.1.2; simp only [List.forall_mem_cons, List.not_mem_nil, false_imp_iff, implies_true, and_true] at hf; obtain ⟨rv, ru, hg, hc0, hc1⟩ := hx.facts)
      go_enter Try.func43, Try.ntmps43
      go_wp2_with (first | (go_at_call 39; (with_reducible refine (spanValid_yes _ _ _ V1.out).mono ?_); rintro e w1 ⟨rfl, hb⟩; replace hx := hx.below hb; clear hb; (try clear hf hg hc0 hc1 rv ru); (have hf := hx.1.2; simp only [List.forall_mem_cons, List.not_mem_nil, false_imp_iff, implies_true, and_true] at hf; obtain ⟨rv, ru, hg, hc0, hc1⟩ := hx.facts)) | (go_at_call 39; (with_reducible refine (spanValid_yes _ _ _ V2.out).mono ?_); rintro e w1 ⟨rfl, hb⟩; replace hx := hx.below hb; clear hb; (try clear hf hg hc0 hc1 rv ru); (have hf := hx.1.2; simp only [List.forall_mem_cons, List.not_mem_nil, false_imp_iff, implies_true, and_true] at hf; obtain ⟨rv, ru, hg, hc0, hc1⟩ := hx.facts)) | (go_at_call 89; (with_reducible refine (checked_any _ _ _).mono ?_); rintro e w1 ⟨rfl, hb⟩; replace hx := hx.below hb; clear hb; (try clear hf hg hc0 hc1 rv ru); (have hf := hx.1.2; simp only [List.forall_mem_cons, List.not_mem_nil, false_imp_iff, implies_true, and_true] at hf; obtain ⟨rv, ru, hg, hc0, hc1⟩ := hx.facts)))
      (obtain ⟨e0, e1, hb9⟩ := hx.done (.int .i64 ((Fx.good (a + c) (b + d)).1)) (.int .i64 ((Fx.good (a + c) (b + d)).2.1)); (try simp only [Exit.inBlock, Exit.then]); exact bodyPost_ret (v := .tuple #[.agg #[.int .i64 (Fx.good (a + c) (b + d)).1, .int .i64 (Fx.good (a + c) (b + d)).2.1], .bool (Fx.good (a + c) (b + d)).2.2]) (by simp [results, Try.results43, go_sem, e0, e1]) rfl ⟨rfl, hb9⟩)
    · have e : Fx.spanAdd a b c d = (0, 0, false) := if_neg (fun k => v2 k.2)
      simp only [e]
      have V1 := Lib.hid v1
      have V2 := Lib.hid v2
      clear v1 v2 e
      (have hf := hx.1.2; simp only [List.forall_mem_cons, List.not_mem_nil, false_imp_iff, implies_true, and_true] at hf; obtain ⟨rv, ru, hg, hc0, hc1⟩ := hx.facts)
      go_enter Try.func43, Try.ntmps43
      go_wp2_with (first | (go_at_call 39; (with_reducible refine (spanValid_yes _ _ _ V1.out).mono ?_); rintro e w1 ⟨rfl, hb⟩; replace hx := hx.below hb; clear hb; (try clear hf hg hc0 hc1 rv ru); (have hf := hx.1.2; simp only [List.forall_mem_cons, List.not_mem_nil, false_imp_iff, implies_true, and_true] at hf; obtain ⟨rv, ru, hg, hc0, hc1⟩ := hx.facts)) | (go_at_call 39; (with_reducible refine (spanValid_no _ _ _ V2.out).mono ?_); rintro e w1 ⟨rfl, hb⟩; replace hx := hx.below hb; clear hb; (try clear hf hg hc0 hc1 rv ru); (have hf := hx.1.2; simp only [List.forall_mem_cons, List.not_mem_nil, false_imp_iff, implies_true, and_true] at hf; obtain ⟨rv, ru, hg, hc0, hc1⟩ := hx.facts)))
      (obtain ⟨e0, e1, hb9⟩ := hx.done (.int .i64 (0)) (.int .i64 (0)); (try simp only [Exit.inBlock, Exit.then]); exact bodyPost_ret (v := .tuple #[.agg #[.int .i64 0, .int .i64 0], .bool false]) (by simp [results, Try.results43, go_sem, e0, e1]) rfl ⟨rfl, hb9⟩)
  · have e : Fx.spanAdd a b c d = (0, 0, false) := if_neg (fun k => v1 k.1)
    simp only [e]
    have V1 := Lib.hid v1
    clear v1 e
    (have hf := hx.1.2; simp only [List.forall_mem_cons, List.not_mem_nil, false_imp_iff, implies_true, and_true] at hf; obtain ⟨rv, ru, hg, hc0, hc1⟩ := hx.facts)
    go_enter Try.func43, Try.ntmps43
    go_wp2_with (first | (go_at_call 39; (with_reducible refine (spanValid_no _ _ _ V1.out).mono ?_); rintro e w1 ⟨rfl, hb⟩; replace hx := hx.below hb; clear hb; (try clear hf hg hc0 hc1 rv ru); (have hf := hx.1.2; simp only [List.forall_mem_cons, List.not_mem_nil, false_imp_iff, implies_true, and_true] at hf; obtain ⟨rv, ru, hg, hc0, hc1⟩ := hx.facts)))
    (obtain ⟨e0, e1, hb9⟩ := hx.done (.int .i64 (0)) (.int .i64 (0)); (try simp only [Exit.inBlock, Exit.then]); exact bodyPost_ret (v := .tuple #[.agg #[.int .i64 0, .int .i64 0], .bool false]) (by simp [results, Try.results43, go_sem, e0, e1]) rfl ⟨rfl, hb9⟩)

