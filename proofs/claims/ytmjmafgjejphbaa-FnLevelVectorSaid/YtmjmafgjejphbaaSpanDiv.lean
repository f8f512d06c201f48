/-
  The walks of quotients of spans.
-/
import Derived.Test.YtmjmafgjejphbaaSpan
import Derived.Test.YtmjmafgjejphbaaTailR
import Derived.Test.YtmjmafgjejphbaaMathS3
namespace Go.Proofs.Ytmjmafgjejphbaa
open Go.RowKit

theorem div_in {a d : Int} (ha : 0 ≤ a ∧ a ≤ 1073741824) (hd : 1 ≤ d ∧ d ≤ 1073741824) : 0 ≤ a * 268435456 / d ∧ a * 268435456 / d ≤ 288230376151711744 := by
  have h := Fx.ediv_bounds (a * 268435456) d hd.1 288230376151711744 (by omega) (by omega)
  exact ⟨Int.ediv_nonneg (by omega) (by omega), h.2⟩
theorem no_div {a b c d : Int} (h : ¬ ((Fx.svalid a b ∧ Fx.svalid c d) ∧ 0 ≤ a ∧ 0 < c)) : Fx.spanDiv a b c d = (0, 0, false) := if_neg h
abbrev GoodOf (a b : Int) : Value := .tuple #[.agg #[.int .i64 (Fx.good a b).1, .int .i64 (Fx.good a b).2.1], .bool (Fx.good a b).2.2]

set_option maxHeartbeats 2000000 in
theorem spanDiv_any (a b c d : Int) (w : World) :
    Calls Try.prog 96 #[.agg #[.int .i64 a, .int .i64 b], .agg #[.int .i64 c, .int .i64 d]] w
      fun e w' => e = .returned (.tuple #[.agg #[.int .i64 (Fx.spanDiv a b c d).1, .int .i64 (Fx.spanDiv a b c d).2.1], .bool (Fx.spanDiv a b c d).2.2]) ∧ Below w.heap.size w w' := by
  have hx := holdR2 w (.int .i64 a) (.int .i64 b) (.int .i64 c) (.int .i64 d) 31 31 31
  by_cases v1 : Fx.svalid a b
  · by_cases v2 : Fx.svalid c d
    · have V1 := Lib.hid v1
      have V2 := Lib.hid v2
      by_cases h0 : 0 ≤ a
      · by_cases h1 : 0 < c
        · have e : Fx.spanDiv a b c d = Fx.good (a * 268435456 / d) (-(-(b * 268435456) / c)) := if_pos ⟨⟨v1, v2⟩, h0, h1⟩
          simp only [e]
          have hb1 : (-1073741824 ≤ a ∧ a ≤ 1073741824) ∧ (-1073741824 ≤ b ∧ b ≤ 1073741824) ∧ a ≤ b := v1
          have hb2 : (-1073741824 ≤ c ∧ c ≤ 1073741824) ∧ (-1073741824 ≤ d ∧ d ≤ 1073741824) ∧ c ≤ d := v2
          have C1 : ∀ w, Calls Try.prog 85 #[.int .i64 (a * 268435456), .int .i64 d] w fun e w' => e = .returned (.int .i64 (a * 268435456 / d)) ∧ w = w' := by
            intro w; rw [← Fx.floorDiv_in (a * 268435456) d (by unfold Fx.Work; omega) (by omega) (by omega)]; exact floorDiv_any _ _ _
          have C2 : ∀ w, Calls Try.prog 86 #[.int .i64 (b * 268435456), .int .i64 c] w fun e w' => e = .returned (.int .i64 (-(-(b * 268435456) / c))) ∧ w = w' := by
            intro w; rw [← Fx.floorDiv_in (-(b * 268435456)) c (by unfold Fx.Work; omega) (by omega) (by omega)]; exact ceilDiv_any _ _ _ (by omega)
          clear v1 v2 e
          (have hf := hx.1.2; simp only [List.forall_mem_cons, List.not_mem_nil, false_imp_iff, implies_true, and_true] at hf; obtain ⟨rv, ru, hg, hc0, hc1⟩ := hx.facts)
          go_enter Try.func96, Try.ntmps96
          go_wp2_with (first | (go_at_call 39; (with_reducible refine (spanValid_yes _ _ _ V1.out).mono ?_); rintro e w1 ⟨rfl, hb⟩; replace hx := hx.below hb; clear hb; (try clear hf hg hc0 hc1 rv ru); (have hf := hx.1.2; simp only [List.forall_mem_cons, List.not_mem_nil, false_imp_iff, implies_true, and_true] at hf; obtain ⟨rv, ru, hg, hc0, hc1⟩ := hx.facts)) | (go_at_call 39; (with_reducible refine (spanValid_yes _ _ _ V2.out).mono ?_); rintro e w1 ⟨rfl, hb⟩; replace hx := hx.below hb; clear hb; (try clear hf hg hc0 hc1 rv ru); (have hf := hx.1.2; simp only [List.forall_mem_cons, List.not_mem_nil, false_imp_iff, implies_true, and_true] at hf; obtain ⟨rv, ru, hg, hc0, hc1⟩ := hx.facts)))
          (have hn : Nonempty (HeldR w [(w.heap.size, 0, .int .i64 a), (w.heap.size, 1, .int .i64 b), (w.heap.size + 1, 0, .int .i64 c), (w.heap.size + 1, 1, .int .i64 d)] (w.heap.size + 1 + 1)) := ⟨⟨_, hx⟩⟩; have hl0 : ∀ x : HeldR w [(w.heap.size, 0, .int .i64 a), (w.heap.size, 1, .int .i64 b), (w.heap.size + 1, 0, .int .i64 c), (w.heap.size + 1, 1, .int .i64 d)] (w.heap.size + 1 + 1), x.it.cell? ⟨w.heap.size, 0, none⟩ = some (.int .i64 a) := fun x => x.at0; have hl1 : ∀ x : HeldR w [(w.heap.size, 0, .int .i64 a), (w.heap.size, 1, .int .i64 b), (w.heap.size + 1, 0, .int .i64 c), (w.heap.size + 1, 1, .int .i64 d)] (w.heap.size + 1 + 1), x.it.cell? ⟨w.heap.size, 1, none⟩ = some (.int .i64 b) := fun x => x.at1; have hl2 : ∀ x : HeldR w [(w.heap.size, 0, .int .i64 a), (w.heap.size, 1, .int .i64 b), (w.heap.size + 1, 0, .int .i64 c), (w.heap.size + 1, 1, .int .i64 d)] (w.heap.size + 1 + 1), x.it.cell? ⟨w.heap.size + 1, 0, none⟩ = some (.int .i64 c) := fun x => x.at2; have hl3 : ∀ x : HeldR w [(w.heap.size, 0, .int .i64 a), (w.heap.size, 1, .int .i64 b), (w.heap.size + 1, 0, .int .i64 c), (w.heap.size + 1, 1, .int .i64 d)] (w.heap.size + 1 + 1), x.it.cell? ⟨w.heap.size + 1, 1, none⟩ = some (.int .i64 d) := fun x => x.at3; refine wp_region_holdR_tail 16 hx (by kernel_rfl) (by kernel_rfl) ?_; simp only [List.take_succ_cons, List.take_zero, List.drop_succ_cons, List.drop_zero]; (repeat (go_big_quiet_step ((first | (go_at_call 85; first | exact Calls.heldR (C1 _) | exact Calls.heldR_same (C1 _)) | (go_at_call 86; first | exact Calls.heldR (C2 _) | exact Calls.heldR_same (C2 _)) | (go_at_call 89; first | exact Calls.heldR (checked_any _ _ _) | exact Calls.heldR_same (checked_any _ _ _)))))); refine wpQuiet_nil ?_; clear hx; intro _ hx; clear hn hl0 hl1 hl2 hl3)
          clear hf hg hc0 hc1 rv ru
          (have hf := hx.1.2; simp only [List.forall_mem_cons, List.not_mem_nil, false_imp_iff, implies_true, and_true] at hf; obtain ⟨rv, ru, hg, hc0, hc1⟩ := hx.facts)
          go_wp2
          (obtain ⟨e0, e1, hb9⟩ := hx.done (.int .i64 ((Fx.good (a * 268435456 / d) (-(-(b * 268435456) / c))).1)) (.int .i64 ((Fx.good (a * 268435456 / d) (-(-(b * 268435456) / c))).2.1)); (try simp only [Exit.inBlock, Exit.then]); exact bodyPost_ret (v := GoodOf (a * 268435456 / d) (-(-(b * 268435456) / c))) (by simp [results, Try.results96, go_sem, e0, e1]) rfl ⟨rfl, hb9⟩)
        · have e := no_div (d := d) (b := b) (a := a) (c := c) (fun k => h1 k.2.2)
          simp only [e]
          clear v1 v2 e
          (have hf := hx.1.2; simp only [List.forall_mem_cons, List.not_mem_nil, false_imp_iff, implies_true, and_true] at hf; obtain ⟨rv, ru, hg, hc0, hc1⟩ := hx.facts)
          go_enter Try.func96, Try.ntmps96
          go_wp2_with (first | (go_at_call 39; (with_reducible refine (spanValid_yes _ _ _ V1.out).mono ?_); rintro e w1 ⟨rfl, hb⟩; replace hx := hx.below hb; clear hb; (try clear hf hg hc0 hc1 rv ru); (have hf := hx.1.2; simp only [List.forall_mem_cons, List.not_mem_nil, false_imp_iff, implies_true, and_true] at hf; obtain ⟨rv, ru, hg, hc0, hc1⟩ := hx.facts)) | (go_at_call 39; (with_reducible refine (spanValid_yes _ _ _ V2.out).mono ?_); rintro e w1 ⟨rfl, hb⟩; replace hx := hx.below hb; clear hb; (try clear hf hg hc0 hc1 rv ru); (have hf := hx.1.2; simp only [List.forall_mem_cons, List.not_mem_nil, false_imp_iff, implies_true, and_true] at hf; obtain ⟨rv, ru, hg, hc0, hc1⟩ := hx.facts)))
          (obtain ⟨e0, e1, hb9⟩ := hx.done (.int .i64 (0)) (.int .i64 (0)); (try simp only [Exit.inBlock, Exit.then]); exact bodyPost_ret (v := .tuple #[.agg #[.int .i64 0, .int .i64 0], .bool false]) (by simp [results, Try.results96, go_sem, e0, e1]) rfl ⟨rfl, hb9⟩)
      · have e := no_div (d := d) (b := b) (a := a) (c := c) (fun k => h0 k.2.1)
        simp only [e]
        clear v1 v2 e
        (have hf := hx.1.2; simp only [List.forall_mem_cons, List.not_mem_nil, false_imp_iff, implies_true, and_true] at hf; obtain ⟨rv, ru, hg, hc0, hc1⟩ := hx.facts)
        go_enter Try.func96, Try.ntmps96
        go_wp2_with (first | (go_at_call 39; (with_reducible refine (spanValid_yes _ _ _ V1.out).mono ?_); rintro e w1 ⟨rfl, hb⟩; replace hx := hx.below hb; clear hb; (try clear hf hg hc0 hc1 rv ru); (have hf := hx.1.2; simp only [List.forall_mem_cons, List.not_mem_nil, false_imp_iff, implies_true, and_true] at hf; obtain ⟨rv, ru, hg, hc0, hc1⟩ := hx.facts)) | (go_at_call 39; (with_reducible refine (spanValid_yes _ _ _ V2.out).mono ?_); rintro e w1 ⟨rfl, hb⟩; replace hx := hx.below hb; clear hb; (try clear hf hg hc0 hc1 rv ru); (have hf := hx.1.2; simp only [List.forall_mem_cons, List.not_mem_nil, false_imp_iff, implies_true, and_true] at hf; obtain ⟨rv, ru, hg, hc0, hc1⟩ := hx.facts)))
        (obtain ⟨e0, e1, hb9⟩ := hx.done (.int .i64 (0)) (.int .i64 (0)); (try simp only [Exit.inBlock, Exit.then]); exact bodyPost_ret (v := .tuple #[.agg #[.int .i64 0, .int .i64 0], .bool false]) (by simp [results, Try.results96, go_sem, e0, e1]) rfl ⟨rfl, hb9⟩)
    · have e := no_div (d := d) (b := b) (a := a) (c := c) (fun k => v2 k.1.2)
      simp only [e]
      have V1 := Lib.hid v1
      have V2 := Lib.hid v2
      clear v1 v2 e
      (have hf := hx.1.2; simp only [List.forall_mem_cons, List.not_mem_nil, false_imp_iff, implies_true, and_true] at hf; obtain ⟨rv, ru, hg, hc0, hc1⟩ := hx.facts)
      go_enter Try.func96, Try.ntmps96
      go_wp2_with (first | (go_at_call 39; (with_reducible refine (spanValid_yes _ _ _ V1.out).mono ?_); rintro e w1 ⟨rfl, hb⟩; replace hx := hx.below hb; clear hb; (try clear hf hg hc0 hc1 rv ru); (have hf := hx.1.2; simp only [List.forall_mem_cons, List.not_mem_nil, false_imp_iff, implies_true, and_true] at hf; obtain ⟨rv, ru, hg, hc0, hc1⟩ := hx.facts)) | (go_at_call 39; (with_reducible refine (spanValid_no _ _ _ V2.out).mono ?_); rintro e w1 ⟨rfl, hb⟩; replace hx := hx.below hb; clear hb; (try clear hf hg hc0 hc1 rv ru); (have hf := hx.1.2; simp only [List.forall_mem_cons, List.not_mem_nil, false_imp_iff, implies_true, and_true] at hf; obtain ⟨rv, ru, hg, hc0, hc1⟩ := hx.facts)))
      (obtain ⟨e0, e1, hb9⟩ := hx.done (.int .i64 (0)) (.int .i64 (0)); (try simp only [Exit.inBlock, Exit.then]); exact bodyPost_ret (v := .tuple #[.agg #[.int .i64 0, .int .i64 0], .bool false]) (by simp [results, Try.results96, go_sem, e0, e1]) rfl ⟨rfl, hb9⟩)
  · have e := no_div (d := d) (b := b) (a := a) (c := c) (fun k => v1 k.1.1)
    simp only [e]
    have V1 := Lib.hid v1
    clear v1 e
    (have hf := hx.1.2; simp only [List.forall_mem_cons, List.not_mem_nil, false_imp_iff, implies_true, and_true] at hf; obtain ⟨rv, ru, hg, hc0, hc1⟩ := hx.facts)
    go_enter Try.func96, Try.ntmps96
    go_wp2_with (first | (go_at_call 39; (with_reducible refine (spanValid_no _ _ _ V1.out).mono ?_); rintro e w1 ⟨rfl, hb⟩; replace hx := hx.below hb; clear hb; (try clear hf hg hc0 hc1 rv ru); (have hf := hx.1.2; simp only [List.forall_mem_cons, List.not_mem_nil, false_imp_iff, implies_true, and_true] at hf; obtain ⟨rv, ru, hg, hc0, hc1⟩ := hx.facts)))
    (obtain ⟨e0, e1, hb9⟩ := hx.done (.int .i64 (0)) (.int .i64 (0)); (try simp only [Exit.inBlock, Exit.then]); exact bodyPost_ret (v := .tuple #[.agg #[.int .i64 0, .int .i64 0], .bool false]) (by simp [results, Try.results96, go_sem, e0, e1]) rfl ⟨rfl, hb9⟩)

set_option maxHeartbeats 2000000 in
theorem s_spanDiv_any (a b c d : Int) (w : World) :
    Calls Try.prog 95 #[.agg #[.int .i64 a, .int .i64 b], .agg #[.int .i64 c, .int .i64 d]] w
      fun e w' => e = .returned (.tuple #[.agg #[.int .i64 (Fx.spanDiv a b c d).1, .int .i64 (Fx.spanDiv a b c d).2.1], .bool (Fx.spanDiv a b c d).2.2]) ∧ Below w.heap.size w w' := by
  have hx := holdR2 w (.int .i64 a) (.int .i64 b) (.int .i64 c) (.int .i64 d) 31 31 31
  by_cases v1 : Fx.svalid a b
  · by_cases v2 : Fx.svalid c d
    · have V1 := Lib.hid v1
      have V2 := Lib.hid v2
      by_cases h0 : 0 ≤ a
      · by_cases h1 : 0 < c
        · have e : Fx.spanDiv a b c d = Fx.good (a * 268435456 / d) (-(-(b * 268435456) / c)) := if_pos ⟨⟨v1, v2⟩, h0, h1⟩
          simp only [e]
          have hb1 : (-1073741824 ≤ a ∧ a ≤ 1073741824) ∧ (-1073741824 ≤ b ∧ b ≤ 1073741824) ∧ a ≤ b := v1
          have hb2 : (-1073741824 ≤ c ∧ c ≤ 1073741824) ∧ (-1073741824 ≤ d ∧ d ≤ 1073741824) ∧ c ≤ d := v2
          have C1 := fun w => l1Floor_any (a * 268435456) d w (by omega) (by omega)
          have C2 := fun w => l7Ceil_any (b * 268435456) c w (by omega) (by omega)
          clear v1 v2 e
          (have hf := hx.1.2; simp only [List.forall_mem_cons, List.not_mem_nil, false_imp_iff, implies_true, and_true] at hf; obtain ⟨rv, ru, hg, hc0, hc1⟩ := hx.facts)
          go_enter Try.func95, Try.ntmps95
          go_wp2_with (first | (go_at_call 107; (with_reducible refine (s_spanValid_yes _ _ _ V1.out).mono ?_); rintro e w1 ⟨rfl, hb⟩; replace hx := hx.below hb; clear hb; (try clear hf hg hc0 hc1 rv ru); (have hf := hx.1.2; simp only [List.forall_mem_cons, List.not_mem_nil, false_imp_iff, implies_true, and_true] at hf; obtain ⟨rv, ru, hg, hc0, hc1⟩ := hx.facts)) | (go_at_call 107; (with_reducible refine (s_spanValid_yes _ _ _ V2.out).mono ?_); rintro e w1 ⟨rfl, hb⟩; replace hx := hx.below hb; clear hb; (try clear hf hg hc0 hc1 rv ru); (have hf := hx.1.2; simp only [List.forall_mem_cons, List.not_mem_nil, false_imp_iff, implies_true, and_true] at hf; obtain ⟨rv, ru, hg, hc0, hc1⟩ := hx.facts)))
          (have hn : Nonempty (HeldR w [(w.heap.size, 0, .int .i64 a), (w.heap.size, 1, .int .i64 b), (w.heap.size + 1, 0, .int .i64 c), (w.heap.size + 1, 1, .int .i64 d)] (w.heap.size + 1 + 1)) := ⟨⟨_, hx⟩⟩; have hl0 : ∀ x : HeldR w [(w.heap.size, 0, .int .i64 a), (w.heap.size, 1, .int .i64 b), (w.heap.size + 1, 0, .int .i64 c), (w.heap.size + 1, 1, .int .i64 d)] (w.heap.size + 1 + 1), x.it.cell? ⟨w.heap.size, 0, none⟩ = some (.int .i64 a) := fun x => x.at0; have hl1 : ∀ x : HeldR w [(w.heap.size, 0, .int .i64 a), (w.heap.size, 1, .int .i64 b), (w.heap.size + 1, 0, .int .i64 c), (w.heap.size + 1, 1, .int .i64 d)] (w.heap.size + 1 + 1), x.it.cell? ⟨w.heap.size, 1, none⟩ = some (.int .i64 b) := fun x => x.at1; have hl2 : ∀ x : HeldR w [(w.heap.size, 0, .int .i64 a), (w.heap.size, 1, .int .i64 b), (w.heap.size + 1, 0, .int .i64 c), (w.heap.size + 1, 1, .int .i64 d)] (w.heap.size + 1 + 1), x.it.cell? ⟨w.heap.size + 1, 0, none⟩ = some (.int .i64 c) := fun x => x.at2; have hl3 : ∀ x : HeldR w [(w.heap.size, 0, .int .i64 a), (w.heap.size, 1, .int .i64 b), (w.heap.size + 1, 0, .int .i64 c), (w.heap.size + 1, 1, .int .i64 d)] (w.heap.size + 1 + 1), x.it.cell? ⟨w.heap.size + 1, 1, none⟩ = some (.int .i64 d) := fun x => x.at3; refine wp_region_holdR_tail 16 hx (by kernel_rfl) (by kernel_rfl) ?_; simp only [List.take_succ_cons, List.take_zero, List.drop_succ_cons, List.drop_zero]; (repeat (go_big_quiet_step ((first | (go_at_call 106; first | exact Calls.heldR (C1 _) | exact Calls.heldR_same (C1 _)) | (go_at_call 87; first | exact Calls.heldR (C2 _) | exact Calls.heldR_same (C2 _)) | (go_at_call 108; first | exact Calls.heldR (l7Good_any _ _ _) | exact Calls.heldR_same (l7Good_any _ _ _)))))); refine wpQuiet_nil ?_; clear hx; intro _ hx; clear hn hl0 hl1 hl2 hl3)
          clear hf hg hc0 hc1 rv ru
          (have hf := hx.1.2; simp only [List.forall_mem_cons, List.not_mem_nil, false_imp_iff, implies_true, and_true] at hf; obtain ⟨rv, ru, hg, hc0, hc1⟩ := hx.facts)
          go_wp2
          (obtain ⟨e0, e1, hb9⟩ := hx.done (.int .i64 ((Fx.good (a * 268435456 / d) (-(-(b * 268435456) / c))).1)) (.int .i64 ((Fx.good (a * 268435456 / d) (-(-(b * 268435456) / c))).2.1)); (try simp only [Exit.inBlock, Exit.then]); exact bodyPost_ret (v := GoodOf (a * 268435456 / d) (-(-(b * 268435456) / c))) (by simp [results, Try.results95, go_sem, e0, e1]) rfl ⟨rfl, hb9⟩)
        · have e := no_div (d := d) (b := b) (a := a) (c := c) (fun k => h1 k.2.2)
          simp only [e]
          clear v1 v2 e
          (have hf := hx.1.2; simp only [List.forall_mem_cons, List.not_mem_nil, false_imp_iff, implies_true, and_true] at hf; obtain ⟨rv, ru, hg, hc0, hc1⟩ := hx.facts)
          go_enter Try.func95, Try.ntmps95
          go_wp2_with (first | (go_at_call 107; (with_reducible refine (s_spanValid_yes _ _ _ V1.out).mono ?_); rintro e w1 ⟨rfl, hb⟩; replace hx := hx.below hb; clear hb; (try clear hf hg hc0 hc1 rv ru); (have hf := hx.1.2; simp only [List.forall_mem_cons, List.not_mem_nil, false_imp_iff, implies_true, and_true] at hf; obtain ⟨rv, ru, hg, hc0, hc1⟩ := hx.facts)) | (go_at_call 107; (with_reducible refine (s_spanValid_yes _ _ _ V2.out).mono ?_); rintro e w1 ⟨rfl, hb⟩; replace hx := hx.below hb; clear hb; (try clear hf hg hc0 hc1 rv ru); (have hf := hx.1.2; simp only [List.forall_mem_cons, List.not_mem_nil, false_imp_iff, implies_true, and_true] at hf; obtain ⟨rv, ru, hg, hc0, hc1⟩ := hx.facts)))
          (obtain ⟨e0, e1, hb9⟩ := hx.done (.int .i64 (0)) (.int .i64 (0)); (try simp only [Exit.inBlock, Exit.then]); exact bodyPost_ret (v := .tuple #[.agg #[.int .i64 0, .int .i64 0], .bool false]) (by simp [results, Try.results95, go_sem, e0, e1]) rfl ⟨rfl, hb9⟩)
      · have e := no_div (d := d) (b := b) (a := a) (c := c) (fun k => h0 k.2.1)
        simp only [e]
        clear v1 v2 e
        (have hf := hx.1.2; simp only [List.forall_mem_cons, List.not_mem_nil, false_imp_iff, implies_true, and_true] at hf; obtain ⟨rv, ru, hg, hc0, hc1⟩ := hx.facts)
        go_enter Try.func95, Try.ntmps95
        go_wp2_with (first | (go_at_call 107; (with_reducible refine (s_spanValid_yes _ _ _ V1.out).mono ?_); rintro e w1 ⟨rfl, hb⟩; replace hx := hx.below hb; clear hb; (try clear hf hg hc0 hc1 rv ru); (have hf := hx.1.2; simp only [List.forall_mem_cons, List.not_mem_nil, false_imp_iff, implies_true, and_true] at hf; obtain ⟨rv, ru, hg, hc0, hc1⟩ := hx.facts)) | (go_at_call 107; (with_reducible refine (s_spanValid_yes _ _ _ V2.out).mono ?_); rintro e w1 ⟨rfl, hb⟩; replace hx := hx.below hb; clear hb; (try clear hf hg hc0 hc1 rv ru); (have hf := hx.1.2; simp only [List.forall_mem_cons, List.not_mem_nil, false_imp_iff, implies_true, and_true] at hf; obtain ⟨rv, ru, hg, hc0, hc1⟩ := hx.facts)))
        (obtain ⟨e0, e1, hb9⟩ := hx.done (.int .i64 (0)) (.int .i64 (0)); (try simp only [Exit.inBlock, Exit.then]); exact bodyPost_ret (v := .tuple #[.agg #[.int .i64 0, .int .i64 0], .bool false]) (by simp [results, Try.results95, go_sem, e0, e1]) rfl ⟨rfl, hb9⟩)
    · have e := no_div (d := d) (b := b) (a := a) (c := c) (fun k => v2 k.1.2)
      simp only [e]
      have V1 := Lib.hid v1
      have V2 := Lib.hid v2
      clear v1 v2 e
      (have hf := hx.1.2; simp only [List.forall_mem_cons, List.not_mem_nil, false_imp_iff, implies_true, and_true] at hf; obtain ⟨rv, ru, hg, hc0, hc1⟩ := hx.facts)
      go_enter Try.func95, Try.ntmps95
      go_wp2_with (first | (go_at_call 107; (with_reducible refine (s_spanValid_yes _ _ _ V1.out).mono ?_); rintro e w1 ⟨rfl, hb⟩; replace hx := hx.below hb; clear hb; (try clear hf hg hc0 hc1 rv ru); (have hf := hx.1.2; simp only [List.forall_mem_cons, List.not_mem_nil, false_imp_iff, implies_true, and_true] at hf; obtain ⟨rv, ru, hg, hc0, hc1⟩ := hx.facts)) | (go_at_call 107; (with_reducible refine (s_spanValid_no _ _ _ V2.out).mono ?_); rintro e w1 ⟨rfl, hb⟩; replace hx := hx.below hb; clear hb; (try clear hf hg hc0 hc1 rv ru); (have hf := hx.1.2; simp only [List.forall_mem_cons, List.not_mem_nil, false_imp_iff, implies_true, and_true] at hf; obtain ⟨rv, ru, hg, hc0, hc1⟩ := hx.facts)))
      (obtain ⟨e0, e1, hb9⟩ := hx.done (.int .i64 (0)) (.int .i64 (0)); (try simp only [Exit.inBlock, Exit.then]); exact bodyPost_ret (v := .tuple #[.agg #[.int .i64 0, .int .i64 0], .bool false]) (by simp [results, Try.results95, go_sem, e0, e1]) rfl ⟨rfl, hb9⟩)
  · have e := no_div (d := d) (b := b) (a := a) (c := c) (fun k => v1 k.1.1)
    simp only [e]
    have V1 := Lib.hid v1
    clear v1 e
    (have hf := hx.1.2; simp only [List.forall_mem_cons, List.not_mem_nil, false_imp_iff, implies_true, and_true] at hf; obtain ⟨rv, ru, hg, hc0, hc1⟩ := hx.facts)
    go_enter Try.func95, Try.ntmps95
    go_wp2_with (first | (go_at_call 107; (with_reducible refine (s_spanValid_no _ _ _ V1.out).mono ?_); rintro e w1 ⟨rfl, hb⟩; replace hx := hx.below hb; clear hb; (try clear hf hg hc0 hc1 rv ru); (have hf := hx.1.2; simp only [List.forall_mem_cons, List.not_mem_nil, false_imp_iff, implies_true, and_true] at hf; obtain ⟨rv, ru, hg, hc0, hc1⟩ := hx.facts)))
    (obtain ⟨e0, e1, hb9⟩ := hx.done (.int .i64 (0)) (.int .i64 (0)); (try simp only [Exit.inBlock, Exit.then]); exact bodyPost_ret (v := .tuple #[.agg #[.int .i64 0, .int .i64 0], .bool false]) (by simp [results, Try.results95, go_sem, e0, e1]) rfl ⟨rfl, hb9⟩)

end Go.Proofs.Ytmjmafgjejphbaa
