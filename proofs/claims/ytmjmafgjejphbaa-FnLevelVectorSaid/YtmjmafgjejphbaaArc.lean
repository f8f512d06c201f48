/-
  The walks of arc tangents.
-/
import Derived.Test.YtmjmafgjejphbaaTwoRoot
import Derived.Test.YtmjmafgjejphbaaSpanTimes
import Derived.Test.YtmjmafgjejphbaaSpanAdd
import Derived.Test.YtmjmafgjejphbaaMathT3
namespace Go.Proofs.Ytmjmafgjejphbaa
open Go.RowKit

theorem arc_no {k : Int} (h : ¬ (2 ≤ k ∧ k ≤ 65536)) : Fx.arcSpan k = (0, 0) := if_neg h
theorem arc_yes {k : Int} (h : 2 ≤ k ∧ k ≤ 65536) : Fx.arcSpan k = Fx.arc k := if_pos h

set_option maxHeartbeats 4000000 in
theorem arcSpan_any (k : Int) (w : World) :
    Calls Try.prog 37 #[.int .i64 k] w fun e w' => e = .returned (.agg #[.int .i64 (Fx.arcSpan k).1, .int .i64 (Fx.arcSpan k).2]) ∧ Below w.heap.size w w' := by
  by_cases hk : 2 ≤ k ∧ k ≤ 65536
  · have hx := bx_two w 0 0 (-1) 1 31 31
    rw [arc_yes hk]
    (have hf := hx.2.2; simp only [List.forall_mem_cons, List.not_mem_nil, false_imp_iff, implies_true, and_true, Bx1] at hf; first | have hd := bx_apart4 hx | have hd := bx_apart3 hx | have hd := bx_apart2 hx | have hd := trivial)
    go_enter Try.func37, Try.ntmps37
    go_wp2
    go_loopw [4, 5, 6, 7] (fun t4 t5 t6 _ w' => ∃ (j : Nat) (b : Bool) (p l h : Int), Fx.ArcInv k j p l h ∧ (b = true ↔ j % 2 = 0) ∧ t4 = .bool b ∧ t5 = .int .i64 p ∧ t6 = .int .i64 (2 * (j : Int) + 1) ∧ Bx w [(w.heap.size + 1, l, h), (w.heap.size, 0, 0)] w')
      (fun _ _ t6 _ _ => (33 - intOf t6).toNat)
    case atStart => exact ⟨0, true, k, -1, 1, Fx.arc_first k hk.1 hk.2, by simp, rfl, rfl, rfl, hx⟩
    case round =>
      clear hx hf hd
      obtain ⟨j, b, p, l, h, hi, hb, rfl, rfl, rfl, hx⟩ := hrel
      have hs := Fx.arc_size hi
      obtain ⟨⟨q0, q1⟩, t0, t1⟩ := Fx.arc_term hi
      obtain ⟨p0, p1⟩ : 1 ≤ p ∧ p ≤ 281474976710656 := ⟨hi.pos, hi.top⟩
      have l0 := hi.low
      have u0 := hi.high
      have hj := hi.few
      by_cases hc : (2 * (j : Int) + 1) * p ≤ 268435456
      · have C1 : ∀ w, Calls Try.prog 85 #[.int .i64 268435456, .int .i64 ((2 * (j : Int) + 1) * p)] w fun e w' => e = .returned (.int .i64 (268435456 / ((2 * (j : Int) + 1) * p))) ∧ w = w' := by
          intro w; rw [← Fx.floorDiv_in 268435456 ((2 * (j : Int) + 1) * p) (by unfold Fx.Work; omega) (by omega) (by omega)]; exact floorDiv_any _ _ _
        have C2 : ∀ w, Calls Try.prog 86 #[.int .i64 268435456, .int .i64 ((2 * (j : Int) + 1) * p)] w fun e w' => e = .returned (.int .i64 (-(-268435456 / ((2 * (j : Int) + 1) * p)))) ∧ w = w' := by
          intro w; rw [← Fx.floorDiv_in (-268435456) ((2 * (j : Int) + 1) * p) (by unfold Fx.Work; omega) (by omega) (by omega)]; exact ceilDiv_any _ _ _ (by omega)
        obtain ⟨n1, n2, n3, -, -, n6, n7⟩ := Fx.arc_power hk.1 hk.2 hi hc
        (have hf := hx.2.2; simp only [List.forall_mem_cons, List.not_mem_nil, false_imp_iff, implies_true, and_true, Bx1] at hf; first | have hd := bx_apart4 hx | have hd := bx_apart3 hx | have hd := bx_apart2 hx | have hd := trivial)
        cases b
        · have hodd : ¬ j % 2 = 0 := fun h => by simp [h] at hb
          have hi2 := Lib.hid (Fx.arc_odd hk.1 hk.2 hi hc hodd)
          have hj2 := Lib.hid (show (j + 1) % 2 = 0 by omega)
          clear hb hodd hi
          generalize 268435456 / ((2 * (j : Int) + 1) * p) = q at *
          generalize -(-268435456 / ((2 * (j : Int) + 1) * p)) = t at *
          go_wp2_with (first | (go_at_call 85; refine (C1 _).mono ?_; rintro e w' ⟨rfl, rfl⟩) | (go_at_call 86; refine (C2 _).mono ?_; rintro e w' ⟨rfl, rfl⟩))
          go_roundw
          case rel => exact ⟨j + 1, true, _, _, _, hi2.out, ⟨fun _ => hj2.out, fun _ => rfl⟩, rfl, rfl, by go_num, (hx.set0 _ _).alloc _⟩
          case measure => simp [intOf]; omega
        · have heven : j % 2 = 0 := by simpa using hb
          have hi2 := Lib.hid (Fx.arc_even hk.1 hk.2 hi hc heven)
          have hj2 := Lib.hid (show ¬ (j + 1) % 2 = 0 by omega)
          clear hb heven hi
          generalize 268435456 / ((2 * (j : Int) + 1) * p) = q at *
          generalize -(-268435456 / ((2 * (j : Int) + 1) * p)) = t at *
          go_wp2_with (first | (go_at_call 85; refine (C1 _).mono ?_; rintro e w' ⟨rfl, rfl⟩) | (go_at_call 86; refine (C2 _).mono ?_; rintro e w' ⟨rfl, rfl⟩))
          go_roundw
          case rel => exact ⟨j + 1, false, _, _, _, hi2.out, ⟨(fun h => by cases h), fun h => absurd h hj2.out⟩, rfl, rfl, by go_num, (hx.set0 _ _).alloc _⟩
          case measure => simp [intOf]; omega
      · have e := Lib.hid (Fx.arc_done hi hc)
        clear hi hb
        (have hf := hx.2.2; simp only [List.forall_mem_cons, List.not_mem_nil, false_imp_iff, implies_true, and_true, Bx1] at hf; first | have hd := bx_apart4 hx | have hd := bx_apart3 hx | have hd := bx_apart2 hx | have hd := trivial)
        go_wp2
        (have h9 := hx.set1 (l) (h); (try simp only [Exit.inBlock, Exit.then]); exact bodyPost_ret (v := .agg #[.int .i64 l, .int .i64 h]) (by first | (simp [results, Try.results37, go_sem]; done) | (have e9 := h9.get1; simp [results, Try.results37, go_sem, e9.1, e9.2])) rfl ⟨by rw [e.out], (by first | exact h9.1 | go_grown)⟩)
  · have hx := bx_one w 0 0 31
    rw [arc_no hk]
    have hc : k < 2 ∨ 2 ≤ k ∧ 65536 < k := by omega
    clear hk
    (have hf := hx.2.2; simp only [List.forall_mem_cons, List.not_mem_nil, false_imp_iff, implies_true, and_true, Bx1] at hf; first | have hd := bx_apart4 hx | have hd := bx_apart3 hx | have hd := bx_apart2 hx | have hd := trivial)
    rcases hc with hc | hc
    all_goals
      go_enter Try.func37, Try.ntmps37
      go_wp2
      (have h9 := hx.set0 (0) (0); (try simp only [Exit.inBlock, Exit.then]); exact bodyPost_ret (v := .agg #[.int .i64 0, .int .i64 0]) (by first | (simp [results, Try.results37, go_sem]; done) | (have e9 := h9.get0; simp [results, Try.results37, go_sem, e9.1, e9.2])) rfl ⟨rfl, (by first | exact h9.1 | go_grown)⟩)

set_option maxHeartbeats 4000000 in
theorem s_arcSpan_any (k : Int) (w : World) :
    Calls Try.prog 38 #[.int .i64 k] w fun e w' => e = .returned (.agg #[.int .i64 (Fx.arcSpan k).1, .int .i64 (Fx.arcSpan k).2]) ∧ Below w.heap.size w w' := by
  by_cases hk : 2 ≤ k ∧ k ≤ 65536
  · have hx := bx_two w 0 0 (-1) 1 31 31
    rw [arc_yes hk]
    (have hf := hx.2.2; simp only [List.forall_mem_cons, List.not_mem_nil, false_imp_iff, implies_true, and_true, Bx1] at hf; first | have hd := bx_apart4 hx | have hd := bx_apart3 hx | have hd := bx_apart2 hx | have hd := trivial)
    go_enter Try.func38, Try.ntmps38
    go_wp2_with (go_at_call 78; refine (l1In_yes _ _ _ _ ?_).mono ?_; omega; rintro e w' ⟨rfl, rfl⟩)
    go_loopw [4, 5, 6, 7] (fun t4 t5 _ _ w' => ∃ (j : Nat) (p l h : Int), Fx.ArcInv k j p l h ∧ t4 = .int .i64 p ∧ t5 = .int .i64 j ∧ Bx w [(w.heap.size + 1, l, h), (w.heap.size, 0, 0)] w')
      (fun _ t5 _ _ _ => (33 - intOf t5).toNat)
    case atStart => exact ⟨0, k, -1, 1, Fx.arc_first k hk.1 hk.2, rfl, rfl, hx⟩
    case round =>
      clear hx hf hd
      obtain ⟨j, p, l, h, hi, rfl, rfl, hx⟩ := hrel
      have hs := Fx.arc_size hi
      obtain ⟨⟨q0, q1⟩, t0, t1⟩ := Fx.arc_term hi
      obtain ⟨p0, p1⟩ : 1 ≤ p ∧ p ≤ 281474976710656 := ⟨hi.pos, hi.top⟩
      have l0 := hi.low
      have u0 := hi.high
      have hj := hi.few
      by_cases hc : (2 * (j : Int) + 1) * p ≤ 268435456
      · have C2 := fun w => l7Ceil_any 268435456 ((2 * (j : Int) + 1) * p) w (by omega) (by omega)
        have hz : ((2 * (j : Int) + 1) * p == 0) = false := by
          have : (2 * (j : Int) + 1) * p ≠ 0 := by omega
          simpa using this
        have hq : (268435456 : Int).tdiv ((2 * (j : Int) + 1) * p) = 268435456 / ((2 * (j : Int) + 1) * p) := Int.tdiv_eq_ediv_of_nonneg (by omega)
        obtain ⟨n1, n2, n3, -, -, n6, n7⟩ := Fx.arc_power hk.1 hk.2 hi hc
        have em : p * k * k = p * (k * k) := Int.mul_assoc _ _ _
        (have hf := hx.2.2; simp only [List.forall_mem_cons, List.not_mem_nil, false_imp_iff, implies_true, and_true, Bx1] at hf; first | have hd := bx_apart4 hx | have hd := bx_apart3 hx | have hd := bx_apart2 hx | have hd := trivial)
        by_cases hm : j % 2 = 0
        · have hi2 := Lib.hid (Fx.arc_even hk.1 hk.2 hi hc hm)
          have hm2 : (j : Int).tmod 2 = 0 := by rw [Int.tmod_eq_emod_of_nonneg (by omega)]; omega
          clear hi hm
          generalize 268435456 / ((2 * (j : Int) + 1) * p) = q at *
          generalize -(-268435456 / ((2 * (j : Int) + 1) * p)) = t at *
          go_wp2_with (first | (go_at_call 87; refine (C2 _).mono ?_; rintro e w' ⟨rfl, rfl⟩))
          go_roundw
          case rel => exact ⟨j + 1, _, _, _, hi2.out, by first | rfl | rw [em], by go_num, hx.set0 _ _⟩
          case measure => simp [intOf]; omega
        · have hi2 := Lib.hid (Fx.arc_odd hk.1 hk.2 hi hc hm)
          have hm2 : (j : Int).tmod 2 = 1 := by rw [Int.tmod_eq_emod_of_nonneg (by omega)]; omega
          clear hi hm
          generalize 268435456 / ((2 * (j : Int) + 1) * p) = q at *
          generalize -(-268435456 / ((2 * (j : Int) + 1) * p)) = t at *
          go_wp2_with (first | (go_at_call 87; refine (C2 _).mono ?_; rintro e w' ⟨rfl, rfl⟩))
          go_roundw
          case rel => exact ⟨j + 1, _, _, _, hi2.out, by first | rfl | rw [em], by go_num, hx.set0 _ _⟩
          case measure => simp [intOf]; omega
      · have e := Lib.hid (Fx.arc_done hi hc)
        clear hi
        (have hf := hx.2.2; simp only [List.forall_mem_cons, List.not_mem_nil, false_imp_iff, implies_true, and_true, Bx1] at hf; first | have hd := bx_apart4 hx | have hd := bx_apart3 hx | have hd := bx_apart2 hx | have hd := trivial)
        go_wp2
        (have h9 := hx.set1 (l) (h); (try simp only [Exit.inBlock, Exit.then]); exact bodyPost_ret (v := .agg #[.int .i64 l, .int .i64 h]) (by first | (simp [results, Try.results38, go_sem]; done) | (have e9 := h9.get1; simp [results, Try.results38, go_sem, e9.1, e9.2])) rfl ⟨by rw [e.out], (by first | exact h9.1 | go_grown)⟩)
  · have hx := bx_one w 0 0 31
    rw [arc_no hk]
    have hc : k < 2 ∨ 65536 < k := by omega
    clear hk
    (have hf := hx.2.2; simp only [List.forall_mem_cons, List.not_mem_nil, false_imp_iff, implies_true, and_true, Bx1] at hf; first | have hd := bx_apart4 hx | have hd := bx_apart3 hx | have hd := bx_apart2 hx | have hd := trivial)
    go_enter Try.func38, Try.ntmps38
    go_wp2_with (go_at_call 78; refine (l1In_no _ _ _ _ ?_).mono ?_; omega; rintro e w' ⟨rfl, rfl⟩)
    (have h9 := hx.set0 (0) (0); (try simp only [Exit.inBlock, Exit.then]); exact bodyPost_ret (v := .agg #[.int .i64 0, .int .i64 0]) (by first | (simp [results, Try.results38, go_sem]; done) | (have e9 := h9.get0; simp [results, Try.results38, go_sem, e9.1, e9.2])) rfl ⟨rfl, (by first | exact h9.1 | go_grown)⟩)

end Go.Proofs.Ytmjmafgjejphbaa
