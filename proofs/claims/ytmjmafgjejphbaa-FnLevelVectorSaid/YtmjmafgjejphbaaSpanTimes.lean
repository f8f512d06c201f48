/-
  The walks of multiples of spans and of spans of fractions.
-/
import Derived.Test.YtmjmafgjejphbaaSpan
namespace Go.Proofs.Ytmjmafgjejphbaa
open Go.RowKit

theorem times_bounds {a n : Int} (ha : -1073741824 ≤ a ∧ a ≤ 1073741824) (hn : -1000 ≤ n ∧ n ≤ 1000) : -1073741824000 ≤ a * n ∧ a * n ≤ 1073741824000 := by
  have := Fx.mul_bounds' (a := a) (b := n) (A := 1073741824) (B := 1000) ha hn
  omega
theorem times_cases (x y : Int) : ∃ l h : Int, ((y < x ∧ ¬x < y ∧ l = y ∧ h = x) ∨ (¬y < x ∧ x < y ∧ l = x ∧ h = y) ∨ (¬y < x ∧ ¬x < y ∧ l = x ∧ h = x)) ∧ min x y = l ∧ max x y = h :=
  ⟨min x y, max x y, by omega, rfl, rfl⟩

set_option maxHeartbeats 4000000 in
theorem spanTimes_any (a b n : Int) (w : World) :
    Calls Try.prog 44 #[.agg #[.int .i64 a, .int .i64 b], .int .i64 n] w
      fun e w' => e = .returned (.tuple #[.agg #[.int .i64 (Fx.spanTimes a b n).1, .int .i64 (Fx.spanTimes a b n).2.1], .bool (Fx.spanTimes a b n).2.2]) ∧ Below w.heap.size w w' := by
  have hx := holdR1 w (.int .i64 a) (.int .i64 b) 31 31
  by_cases v1 : Fx.svalid a b
  · by_cases v2 : -1000 ≤ n ∧ n ≤ 1000
    · obtain ⟨l, h, hlh, e1, e2⟩ := times_cases (a * n) (b * n)
      have e : Fx.spanTimes a b n = Fx.good l h := by rw [← e1, ← e2]; exact if_pos ⟨v1, v2⟩
      simp only [e]
      have V1 := Lib.hid v1
      have p1 := times_bounds v1.1 v2
      have p2 := times_bounds v1.2.1 v2
      clear v1 e e1 e2
      (have hf := hx.1.2; simp only [List.forall_mem_cons, List.not_mem_nil, false_imp_iff, implies_true, and_true] at hf; obtain ⟨rv, ru, hg, hc0, hc1⟩ := hx.facts)
      rcases hlh with ⟨k1, k2, rfl, rfl⟩ | ⟨k1, k2, rfl, rfl⟩ | ⟨k1, k2, rfl, rfl⟩
      · go_enter Try.func44, Try.ntmps44
        go_wp2_with (first | (go_at_call 39; (with_reducible refine (spanValid_yes _ _ _ V1.out).mono ?_); rintro e w1 ⟨rfl, hb⟩; replace hx := hx.below hb; clear hb; (try clear hf hg hc0 hc1 rv ru); (have hf := hx.1.2; simp only [List.forall_mem_cons, List.not_mem_nil, false_imp_iff, implies_true, and_true] at hf; obtain ⟨rv, ru, hg, hc0, hc1⟩ := hx.facts)) | (go_at_call 88; refine (within_yes _ _ _ ?_).mono ?_; (omega); rintro e w' ⟨rfl, rfl⟩) | (go_at_call 88; refine (within_no _ _ _ ?_).mono ?_; (omega); rintro e w' ⟨rfl, rfl⟩) | (go_at_call 89; (with_reducible refine (checked_any _ _ _).mono ?_); rintro e w1 ⟨rfl, hb⟩; replace hx := hx.below hb; clear hb; (try clear hf hg hc0 hc1 rv ru); (have hf := hx.1.2; simp only [List.forall_mem_cons, List.not_mem_nil, false_imp_iff, implies_true, and_true] at hf; obtain ⟨rv, ru, hg, hc0, hc1⟩ := hx.facts)))
        (obtain ⟨e0, e1, hb9⟩ := hx.done (.int .i64 ((Fx.good (b * n) (a * n)).1)) (.int .i64 ((Fx.good (b * n) (a * n)).2.1)); (try simp only [Exit.inBlock, Exit.then]); exact bodyPost_ret (v := .tuple #[.agg #[.int .i64 (Fx.good (b * n) (a * n)).1, .int .i64 (Fx.good (b * n) (a * n)).2.1], .bool (Fx.good (b * n) (a * n)).2.2]) (by simp [results, Try.results44, go_sem, e0, e1]) rfl ⟨rfl, hb9⟩)
      · go_enter Try.func44, Try.ntmps44
        go_wp2_with (first | (go_at_call 39; (with_reducible refine (spanValid_yes _ _ _ V1.out).mono ?_); rintro e w1 ⟨rfl, hb⟩; replace hx := hx.below hb; clear hb; (try clear hf hg hc0 hc1 rv ru); (have hf := hx.1.2; simp only [List.forall_mem_cons, List.not_mem_nil, false_imp_iff, implies_true, and_true] at hf; obtain ⟨rv, ru, hg, hc0, hc1⟩ := hx.facts)) | (go_at_call 88; refine (within_yes _ _ _ ?_).mono ?_; (omega); rintro e w' ⟨rfl, rfl⟩) | (go_at_call 88; refine (within_no _ _ _ ?_).mono ?_; (omega); rintro e w' ⟨rfl, rfl⟩) | (go_at_call 89; (with_reducible refine (checked_any _ _ _).mono ?_); rintro e w1 ⟨rfl, hb⟩; replace hx := hx.below hb; clear hb; (try clear hf hg hc0 hc1 rv ru); (have hf := hx.1.2; simp only [List.forall_mem_cons, List.not_mem_nil, false_imp_iff, implies_true, and_true] at hf; obtain ⟨rv, ru, hg, hc0, hc1⟩ := hx.facts)))
        (obtain ⟨e0, e1, hb9⟩ := hx.done (.int .i64 ((Fx.good (a * n) (b * n)).1)) (.int .i64 ((Fx.good (a * n) (b * n)).2.1)); (try simp only [Exit.inBlock, Exit.then]); exact bodyPost_ret (v := .tuple #[.agg #[.int .i64 (Fx.good (a * n) (b * n)).1, .int .i64 (Fx.good (a * n) (b * n)).2.1], .bool (Fx.good (a * n) (b * n)).2.2]) (by simp [results, Try.results44, go_sem, e0, e1]) rfl ⟨rfl, hb9⟩)
      · have k3 : b * n = a * n := by omega
        go_enter Try.func44, Try.ntmps44
        go_wp2_with (first | (go_at_call 39; (with_reducible refine (spanValid_yes _ _ _ V1.out).mono ?_); rintro e w1 ⟨rfl, hb⟩; replace hx := hx.below hb; clear hb; (try clear hf hg hc0 hc1 rv ru); (have hf := hx.1.2; simp only [List.forall_mem_cons, List.not_mem_nil, false_imp_iff, implies_true, and_true] at hf; obtain ⟨rv, ru, hg, hc0, hc1⟩ := hx.facts)) | (go_at_call 88; refine (within_yes _ _ _ ?_).mono ?_; (omega); rintro e w' ⟨rfl, rfl⟩) | (go_at_call 88; refine (within_no _ _ _ ?_).mono ?_; (omega); rintro e w' ⟨rfl, rfl⟩) | (go_at_call 89; (with_reducible refine (checked_any _ _ _).mono ?_); rintro e w1 ⟨rfl, hb⟩; replace hx := hx.below hb; clear hb; (try clear hf hg hc0 hc1 rv ru); (have hf := hx.1.2; simp only [List.forall_mem_cons, List.not_mem_nil, false_imp_iff, implies_true, and_true] at hf; obtain ⟨rv, ru, hg, hc0, hc1⟩ := hx.facts)))
        (obtain ⟨e0, e1, hb9⟩ := hx.done (.int .i64 ((Fx.good (a * n) (a * n)).1)) (.int .i64 ((Fx.good (a * n) (a * n)).2.1)); (try simp only [Exit.inBlock, Exit.then]); exact bodyPost_ret (v := .tuple #[.agg #[.int .i64 (Fx.good (a * n) (a * n)).1, .int .i64 (Fx.good (a * n) (a * n)).2.1], .bool (Fx.good (a * n) (a * n)).2.2]) (by simp [results, Try.results44, go_sem, e0, e1]) rfl ⟨rfl, hb9⟩)
    · have e : Fx.spanTimes a b n = (0, 0, false) := if_neg (fun k => v2 k.2)
      simp only [e]
      have V1 := Lib.hid v1
      clear v1 e
      (have hf := hx.1.2; simp only [List.forall_mem_cons, List.not_mem_nil, false_imp_iff, implies_true, and_true] at hf; obtain ⟨rv, ru, hg, hc0, hc1⟩ := hx.facts)
      go_enter Try.func44, Try.ntmps44
      go_wp2_with (first | (go_at_call 39; (with_reducible refine (spanValid_yes _ _ _ V1.out).mono ?_); rintro e w1 ⟨rfl, hb⟩; replace hx := hx.below hb; clear hb; (try clear hf hg hc0 hc1 rv ru); (have hf := hx.1.2; simp only [List.forall_mem_cons, List.not_mem_nil, false_imp_iff, implies_true, and_true] at hf; obtain ⟨rv, ru, hg, hc0, hc1⟩ := hx.facts)) | (go_at_call 88; refine (within_yes _ _ _ ?_).mono ?_; (omega); rintro e w' ⟨rfl, rfl⟩) | (go_at_call 88; refine (within_no _ _ _ ?_).mono ?_; (omega); rintro e w' ⟨rfl, rfl⟩))
      (obtain ⟨e0, e1, hb9⟩ := hx.done (.int .i64 (0)) (.int .i64 (0)); (try simp only [Exit.inBlock, Exit.then]); exact bodyPost_ret (v := .tuple #[.agg #[.int .i64 0, .int .i64 0], .bool false]) (by simp [results, Try.results44, go_sem, e0, e1]) rfl ⟨rfl, hb9⟩)
  · have e : Fx.spanTimes a b n = (0, 0, false) := if_neg (fun k => v1 k.1)
    simp only [e]
    have V1 := Lib.hid v1
    clear v1 e
    (have hf := hx.1.2; simp only [List.forall_mem_cons, List.not_mem_nil, false_imp_iff, implies_true, and_true] at hf; obtain ⟨rv, ru, hg, hc0, hc1⟩ := hx.facts)
    go_enter Try.func44, Try.ntmps44
    go_wp2_with (first | (go_at_call 39; (with_reducible refine (spanValid_no _ _ _ V1.out).mono ?_); rintro e w1 ⟨rfl, hb⟩; replace hx := hx.below hb; clear hb; (try clear hf hg hc0 hc1 rv ru); (have hf := hx.1.2; simp only [List.forall_mem_cons, List.not_mem_nil, false_imp_iff, implies_true, and_true] at hf; obtain ⟨rv, ru, hg, hc0, hc1⟩ := hx.facts)))
    (obtain ⟨e0, e1, hb9⟩ := hx.done (.int .i64 (0)) (.int .i64 (0)); (try simp only [Exit.inBlock, Exit.then]); exact bodyPost_ret (v := .tuple #[.agg #[.int .i64 0, .int .i64 0], .bool false]) (by simp [results, Try.results44, go_sem, e0, e1]) rfl ⟨rfl, hb9⟩)

