/-
  The walks of products of spans.
-/
import Derived.Test.YtmjmafgjejphbaaSpan
namespace Go.Proofs.Ytmjmafgjejphbaa
open Go.RowKit

theorem min4_run (P : Program) (a b c d : Int) (ats : Array TypeId) (T : TypeId) (w : World) :
    Sem.run P (Builtin.min_ ats T #[.int .i64 a, .int .i64 b, .int .i64 c, .int .i64 d]) w = .ok (.int .i64 (Fx.min4 a b c d)) w := by
  have e : (if d < (if c < (if b < a then b else a) then c else (if b < a then b else a)) then d else (if c < (if b < a then b else a) then c else (if b < a then b else a))) = Fx.min4 a b c d := by unfold Fx.min4; omega
  rw [← e]; rfl
theorem max4_run (P : Program) (a b c d : Int) (ats : Array TypeId) (T : TypeId) (w : World) :
    Sem.run P (Builtin.max_ ats T #[.int .i64 a, .int .i64 b, .int .i64 c, .int .i64 d]) w = .ok (.int .i64 (Fx.max4 a b c d)) w := by
  have e : (if (if (if a < b then b else a) < c then c else (if a < b then b else a)) < d then d else (if (if a < b then b else a) < c then c else (if a < b then b else a))) = Fx.max4 a b c d := by unfold Fx.max4; omega
  rw [← e]; rfl
theorem mul_facts {a b c d : Int} (v1 : Fx.svalid a b) (v2 : Fx.svalid c d) :
    ((-1152921504606846976 ≤ Fx.min4 (a * c) (a * d) (b * c) (b * d) ∧ Fx.min4 (a * c) (a * d) (b * c) (b * d) ≤ 1152921504606846976) ∧
     (-1152921504606846976 ≤ Fx.max4 (a * c) (a * d) (b * c) (b * d) ∧ Fx.max4 (a * c) (a * d) (b * c) (b * d) ≤ 1152921504606846976)) ∧
    Fx.floorDiv (Fx.min4 (a * c) (a * d) (b * c) (b * d)) 268435456 = Fx.mulLo a b c d ∧
    -Fx.floorDiv (-Fx.max4 (a * c) (a * d) (b * c) (b * d)) 268435456 = Fx.mulHi a b c d := by
  obtain ⟨p1, p2, p3, p4⟩ := Fx.svalid_prod v1 v2
  have l := Fx.le_min4 (a := a * c) (b := a * d) (c := b * c) (d := b * d) (x := -1152921504606846976) ⟨by omega, by omega, by omega, by omega⟩
  have u := Fx.max4_le (a := a * c) (b := a * d) (c := b * c) (d := b * d) (x := 1152921504606846976) ⟨by omega, by omega, by omega, by omega⟩
  have m := Fx.min4_le_max4 (a * c) (a * d) (b * c) (b * d)
  refine ⟨⟨by omega, by omega⟩, Fx.floorDiv_in _ _ (by unfold Fx.Work; omega) (by omega) (by omega), ?_⟩
  rw [Fx.floorDiv_in _ _ (by unfold Fx.Work; omega) (by omega) (by omega)]
  rfl

set_option maxHeartbeats 2000000 in
theorem spanMul_any (a b c d : Int) (w : World) :
    Calls Try.prog 54 #[.agg #[.int .i64 a, .int .i64 b], .agg #[.int .i64 c, .int .i64 d]] w
      fun e w' => e = .returned (.tuple #[.agg #[.int .i64 (Fx.spanMul a b c d).1, .int .i64 (Fx.spanMul a b c d).2.1], .bool (Fx.spanMul a b c d).2.2]) ∧ Below w.heap.size w w' := by
  have hx := holdR2 w (.int .i64 a) (.int .i64 b) (.int .i64 c) (.int .i64 d) 31 31 31
  by_cases v1 : Fx.svalid a b
  · by_cases v2 : Fx.svalid c d
    · have e : Fx.spanMul a b c d = Fx.good (Fx.mulLo a b c d) (Fx.mulHi a b c d) := if_pos ⟨v1, v2⟩
      simp only [e]
      have hb1 : (-1073741824 ≤ a ∧ a ≤ 1073741824) ∧ -1073741824 ≤ b ∧ b ≤ 1073741824 := ⟨v1.1, v1.2.1⟩
      have hb2 : (-1073741824 ≤ c ∧ c ≤ 1073741824) ∧ -1073741824 ≤ d ∧ d ≤ 1073741824 := ⟨v2.1, v2.2.1⟩
      have V1 := Lib.hid v1
      have V2 := Lib.hid v2
      obtain ⟨p1, p2, p3, p4⟩ := Fx.svalid_prod v1 v2
      obtain ⟨⟨q1, q2⟩, E1, E2⟩ := mul_facts v1 v2
      have hm4 := fun w' => min4_run Try.prog (a * c) (a * d) (b * c) (b * d) #[3, 3, 3, 3] 3 w'
      have hM4 := fun w' => max4_run Try.prog (a * c) (a * d) (b * c) (b * d) #[3, 3, 3, 3] 3 w'
      clear v1 v2 e
      (have hf := hx.1.2; simp only [List.forall_mem_cons, List.not_mem_nil, false_imp_iff, implies_true, and_true] at hf; obtain ⟨rv, ru, hg, hc0, hc1⟩ := hx.facts)
      go_enter Try.func54, Try.ntmps54
      go_wp2_with (first | (go_at_call 39; (with_reducible refine (spanValid_yes _ _ _ V1.out).mono ?_); rintro e w1 ⟨rfl, hb⟩; replace hx := hx.below hb; clear hb; (try clear hf hg hc0 hc1 rv ru); (have hf := hx.1.2; simp only [List.forall_mem_cons, List.not_mem_nil, false_imp_iff, implies_true, and_true] at hf; obtain ⟨rv, ru, hg, hc0, hc1⟩ := hx.facts)) | (go_at_call 39; (with_reducible refine (spanValid_yes _ _ _ V2.out).mono ?_); rintro e w1 ⟨rfl, hb⟩; replace hx := hx.below hb; clear hb; (try clear hf hg hc0 hc1 rv ru); (have hf := hx.1.2; simp only [List.forall_mem_cons, List.not_mem_nil, false_imp_iff, implies_true, and_true] at hf; obtain ⟨rv, ru, hg, hc0, hc1⟩ := hx.facts)))
      go_quiet (fail)
      replace hx := HoldR.drewN hx nq
      (try clear hf hg hc0 hc1 rv ru); (have hf := hx.1.2; simp only [List.forall_mem_cons, List.not_mem_nil, false_imp_iff, implies_true, and_true] at hf; obtain ⟨rv, ru, hg, hc0, hc1⟩ := hx.facts)
      go_wp2_with (first | (go_at_call 85; refine (floorDiv_any _ _ _).mono ?_; rintro e w' ⟨rfl, rfl⟩) | (go_at_call 86; refine (ceilDiv_any _ _ _ q2).mono ?_; rintro e w' ⟨rfl, rfl⟩) | (go_at_call 89; (with_reducible refine (checked_any _ _ _).mono ?_); rintro e w1 ⟨rfl, hb⟩; replace hx := hx.below hb; clear hb; (try clear hf hg hc0 hc1 rv ru); (have hf := hx.1.2; simp only [List.forall_mem_cons, List.not_mem_nil, false_imp_iff, implies_true, and_true] at hf; obtain ⟨rv, ru, hg, hc0, hc1⟩ := hx.facts)))
      (obtain ⟨e0, e1, hb9⟩ := hx.done (.int .i64 ((Fx.good (Fx.mulLo a b c d) (Fx.mulHi a b c d)).1)) (.int .i64 ((Fx.good (Fx.mulLo a b c d) (Fx.mulHi a b c d)).2.1)); (try simp only [Exit.inBlock, Exit.then]); exact bodyPost_ret (v := .tuple #[.agg #[.int .i64 (Fx.good (Fx.mulLo a b c d) (Fx.mulHi a b c d)).1, .int .i64 (Fx.good (Fx.mulLo a b c d) (Fx.mulHi a b c d)).2.1], .bool (Fx.good (Fx.mulLo a b c d) (Fx.mulHi a b c d)).2.2]) (by simp [results, Try.results54, go_sem, e0, e1]) rfl ⟨rfl, hb9⟩)
    · have e : Fx.spanMul a b c d = (0, 0, false) := if_neg (fun k => v2 k.2)
      simp only [e]
      have V1 := Lib.hid v1
      have V2 := Lib.hid v2
      clear v1 v2 e
      (have hf := hx.1.2; simp only [List.forall_mem_cons, List.not_mem_nil, false_imp_iff, implies_true, and_true] at hf; obtain ⟨rv, ru, hg, hc0, hc1⟩ := hx.facts)
      go_enter Try.func54, Try.ntmps54
      go_wp2_with (first | (go_at_call 39; (with_reducible refine (spanValid_yes _ _ _ V1.out).mono ?_); rintro e w1 ⟨rfl, hb⟩; replace hx := hx.below hb; clear hb; (try clear hf hg hc0 hc1 rv ru); (have hf := hx.1.2; simp only [List.forall_mem_cons, List.not_mem_nil, false_imp_iff, implies_true, and_true] at hf; obtain ⟨rv, ru, hg, hc0, hc1⟩ := hx.facts)) | (go_at_call 39; (with_reducible refine (spanValid_no _ _ _ V2.out).mono ?_); rintro e w1 ⟨rfl, hb⟩; replace hx := hx.below hb; clear hb; (try clear hf hg hc0 hc1 rv ru); (have hf := hx.1.2; simp only [List.forall_mem_cons, List.not_mem_nil, false_imp_iff, implies_true, and_true] at hf; obtain ⟨rv, ru, hg, hc0, hc1⟩ := hx.facts)))
      (obtain ⟨e0, e1, hb9⟩ := hx.done (.int .i64 (0)) (.int .i64 (0)); (try simp only [Exit.inBlock, Exit.then]); exact bodyPost_ret (v := .tuple #[.agg #[.int .i64 0, .int .i64 0], .bool false]) (by simp [results, Try.results54, go_sem, e0, e1]) rfl ⟨rfl, hb9⟩)
  · have e : Fx.spanMul a b c d = (0, 0, false) := if_neg (fun k => v1 k.1)
    simp only [e]
    have V1 := Lib.hid v1
    clear v1 e
    (have hf := hx.1.2; simp only [List.forall_mem_cons, List.not_mem_nil, false_imp_iff, implies_true, and_true] at hf; obtain ⟨rv, ru, hg, hc0, hc1⟩ := hx.facts)
    go_enter Try.func54, Try.ntmps54
    go_wp2_with (first | (go_at_call 39; (with_reducible refine (spanValid_no _ _ _ V1.out).mono ?_); rintro e w1 ⟨rfl, hb⟩; replace hx := hx.below hb; clear hb; (try clear hf hg hc0 hc1 rv ru); (have hf := hx.1.2; simp only [List.forall_mem_cons, List.not_mem_nil, false_imp_iff, implies_true, and_true] at hf; obtain ⟨rv, ru, hg, hc0, hc1⟩ := hx.facts)))
    (obtain ⟨e0, e1, hb9⟩ := hx.done (.int .i64 (0)) (.int .i64 (0)); (try simp only [Exit.inBlock, Exit.then]); exact bodyPost_ret (v := .tuple #[.agg #[.int .i64 0, .int .i64 0], .bool false]) (by simp [results, Try.results54, go_sem, e0, e1]) rfl ⟨rfl, hb9⟩)

set_option maxHeartbeats 2000000 in
theorem s_spanMul_any (a b c d : Int) (w : World) :
    Calls Try.prog 90 #[.agg #[.int .i64 a, .int .i64 b], .agg #[.int .i64 c, .int .i64 d]] w
      fun e w' => e = .returned (.tuple #[.agg #[.int .i64 (Fx.spanMul a b c d).1, .int .i64 (Fx.spanMul a b c d).2.1], .bool (Fx.spanMul a b c d).2.2]) ∧ Below w.heap.size w w' := by
  have hx := holdR2 w (.int .i64 a) (.int .i64 b) (.int .i64 c) (.int .i64 d) 31 31 31
  by_cases v1 : Fx.svalid a b
  · by_cases v2 : Fx.svalid c d
    · have e : Fx.spanMul a b c d = Fx.good (Fx.mulLo a b c d) (Fx.mulHi a b c d) := if_pos ⟨v1, v2⟩
      simp only [e]
      have hb1 : (-1073741824 ≤ a ∧ a ≤ 1073741824) ∧ -1073741824 ≤ b ∧ b ≤ 1073741824 := ⟨v1.1, v1.2.1⟩
      have hb2 : (-1073741824 ≤ c ∧ c ≤ 1073741824) ∧ -1073741824 ≤ d ∧ d ≤ 1073741824 := ⟨v2.1, v2.2.1⟩
      have V1 := Lib.hid v1
      have V2 := Lib.hid v2
      obtain ⟨p1, p2, p3, p4⟩ := Fx.svalid_prod v1 v2
      obtain ⟨⟨q1, q2⟩, E1, E2⟩ := mul_facts v1 v2
      have hm4 := fun w' => min4_run Try.prog (a * c) (a * d) (b * c) (b * d) #[3, 3, 3, 3] 3 w'
      have hM4 := fun w' => max4_run Try.prog (a * c) (a * d) (b * c) (b * d) #[3, 3, 3, 3] 3 w'
      have F1 : Fx.min4 (a * c) (a * d) (b * c) (b * d) / 268435456 = Fx.mulLo a b c d := rfl
      have F2 : -(-Fx.max4 (a * c) (a * d) (b * c) (b * d) / 268435456) = Fx.mulHi a b c d := rfl
      clear v1 v2 e E1 E2
      (have hf := hx.1.2; simp only [List.forall_mem_cons, List.not_mem_nil, false_imp_iff, implies_true, and_true] at hf; obtain ⟨rv, ru, hg, hc0, hc1⟩ := hx.facts)
      go_enter Try.func90, Try.ntmps90
      go_wp2_with (first | (go_at_call 107; (with_reducible refine (s_spanValid_yes _ _ _ V1.out).mono ?_); rintro e w1 ⟨rfl, hb⟩; replace hx := hx.below hb; clear hb; (try clear hf hg hc0 hc1 rv ru); (have hf := hx.1.2; simp only [List.forall_mem_cons, List.not_mem_nil, false_imp_iff, implies_true, and_true] at hf; obtain ⟨rv, ru, hg, hc0, hc1⟩ := hx.facts)) | (go_at_call 107; (with_reducible refine (s_spanValid_yes _ _ _ V2.out).mono ?_); rintro e w1 ⟨rfl, hb⟩; replace hx := hx.below hb; clear hb; (try clear hf hg hc0 hc1 rv ru); (have hf := hx.1.2; simp only [List.forall_mem_cons, List.not_mem_nil, false_imp_iff, implies_true, and_true] at hf; obtain ⟨rv, ru, hg, hc0, hc1⟩ := hx.facts)) | (go_at_call 106; refine (l1Floor_any _ _ _ ?_ ?_).mono ?_; omega; omega; rintro e w' ⟨rfl, rfl⟩) | (go_at_call 87; refine (l7Ceil_any _ _ _ ?_ ?_).mono ?_; omega; omega; rintro e w' ⟨rfl, rfl⟩) | (go_at_call 108; (with_reducible refine (l7Good_any _ _ _).mono ?_); rintro e w1 ⟨rfl, hb⟩; replace hx := hx.below hb; clear hb; (try clear hf hg hc0 hc1 rv ru); (have hf := hx.1.2; simp only [List.forall_mem_cons, List.not_mem_nil, false_imp_iff, implies_true, and_true] at hf; obtain ⟨rv, ru, hg, hc0, hc1⟩ := hx.facts)))
      (obtain ⟨e0, e1, hb9⟩ := hx.done (.int .i64 ((Fx.good (Fx.mulLo a b c d) (Fx.mulHi a b c d)).1)) (.int .i64 ((Fx.good (Fx.mulLo a b c d) (Fx.mulHi a b c d)).2.1)); (try simp only [Exit.inBlock, Exit.then]); exact bodyPost_ret (v := .tuple #[.agg #[.int .i64 (Fx.good (Fx.mulLo a b c d) (Fx.mulHi a b c d)).1, .int .i64 (Fx.good (Fx.mulLo a b c d) (Fx.mulHi a b c d)).2.1], .bool (Fx.good (Fx.mulLo a b c d) (Fx.mulHi a b c d)).2.2]) (by simp [results, Try.results90, go_sem, e0, e1]) rfl ⟨rfl, hb9⟩)
    · have e : Fx.spanMul a b c d = (0, 0, false) := if_neg (fun k => v2 k.2)
      simp only [e]
      have V1 := Lib.hid v1
      have V2 := Lib.hid v2
      clear v1 v2 e
      (have hf := hx.1.2; simp only [List.forall_mem_cons, List.not_mem_nil, false_imp_iff, implies_true, and_true] at hf; obtain ⟨rv, ru, hg, hc0, hc1⟩ := hx.facts)
      go_enter Try.func90, Try.ntmps90
      go_wp2_with (first | (go_at_call 107; (with_reducible refine (s_spanValid_yes _ _ _ V1.out).mono ?_); rintro e w1 ⟨rfl, hb⟩; replace hx := hx.below hb; clear hb; (try clear hf hg hc0 hc1 rv ru); (have hf := hx.1.2; simp only [List.forall_mem_cons, List.not_mem_nil, false_imp_iff, implies_true, and_true] at hf; obtain ⟨rv, ru, hg, hc0, hc1⟩ := hx.facts)) | (go_at_call 107; (with_reducible refine (s_spanValid_no _ _ _ V2.out).mono ?_); rintro e w1 ⟨rfl, hb⟩; replace hx := hx.below hb; clear hb; (try clear hf hg hc0 hc1 rv ru); (have hf := hx.1.2; simp only [List.forall_mem_cons, List.not_mem_nil, false_imp_iff, implies_true, and_true] at hf; obtain ⟨rv, ru, hg, hc0, hc1⟩ := hx.facts)))
      (obtain ⟨e0, e1, hb9⟩ := hx.done (.int .i64 (0)) (.int .i64 (0)); (try simp only [Exit.inBlock, Exit.then]); exact bodyPost_ret (v := .tuple #[.agg #[.int .i64 0, .int .i64 0], .bool false]) (by simp [results, Try.results90, go_sem, e0, e1]) rfl ⟨rfl, hb9⟩)
  · have e : Fx.spanMul a b c d = (0, 0, false) := if_neg (fun k => v1 k.1)
    simp only [e]
    have V1 := Lib.hid v1
    clear v1 e
    (have hf := hx.1.2; simp only [List.forall_mem_cons, List.not_mem_nil, false_imp_iff, implies_true, and_true] at hf; obtain ⟨rv, ru, hg, hc0, hc1⟩ := hx.facts)
    go_enter Try.func90, Try.ntmps90
    go_wp2_with (first | (go_at_call 107; (with_reducible refine (s_spanValid_no _ _ _ V1.out).mono ?_); rintro e w1 ⟨rfl, hb⟩; replace hx := hx.below hb; clear hb; (try clear hf hg hc0 hc1 rv ru); (have hf := hx.1.2; simp only [List.forall_mem_cons, List.not_mem_nil, false_imp_iff, implies_true, and_true] at hf; obtain ⟨rv, ru, hg, hc0, hc1⟩ := hx.facts)))
    (obtain ⟨e0, e1, hb9⟩ := hx.done (.int .i64 (0)) (.int .i64 (0)); (try simp only [Exit.inBlock, Exit.then]); exact bodyPost_ret (v := .tuple #[.agg #[.int .i64 0, .int .i64 0], .bool false]) (by simp [results, Try.results90, go_sem, e0, e1]) rfl ⟨rfl, hb9⟩)

end Go.Proofs.Ytmjmafgjejphbaa
