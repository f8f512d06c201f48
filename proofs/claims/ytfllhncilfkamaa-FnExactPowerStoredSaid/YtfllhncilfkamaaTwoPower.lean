/-
  The walks of powers of 2.
-/
import Derived.Test.YtfllhncilfkamaaTwoRoot
import Derived.Test.YtfllhncilfkamaaSpanMul
import Derived.Test.YtfllhncilfkamaaMathP2
namespace Go.Proofs.Ytfllhncilfkamaa
open Go.RowKit

theorem twoPow_next (x : Int) (n : Nat) (h : n < 16) :
    (x / 2 ^ (15 - n) % 2 = 1 → Fx.twoPow x (n + 1) = ((Fx.spanMul (Fx.twoPow x n).1 (Fx.twoPow x n).2 (Fx.root (n + 1)).1 (Fx.root (n + 1)).2).1, (Fx.spanMul (Fx.twoPow x n).1 (Fx.twoPow x n).2 (Fx.root (n + 1)).1 (Fx.root (n + 1)).2).2.1)) ∧
    (¬ x / 2 ^ (15 - n) % 2 = 1 → Fx.twoPow x (n + 1) = Fx.twoPow x n) := by
  have e : 16 - (n + 1) = 15 - n := by omega
  rw [Fx.twoPow, e]
  exact ⟨fun k => if_pos k, fun k => if_neg k⟩

set_option maxHeartbeats 4000000 in
theorem twoPower_any (x : Int) (w : World) :
    Calls Try.prog 43 #[.int .i64 x] w fun e w' => e = .returned (.agg #[.int .i64 (Fx.twoPower x).1, .int .i64 (Fx.twoPower x).2]) ∧ Below w.heap.size w w' := by
  have hx := bx_one w 0 0 24
  by_cases hk : 0 ≤ x ∧ x ≤ 65535
  · have e : Fx.twoPower x = Fx.twoPow x 16 := if_pos hk
    rw [e]
    clear e
    have hr0 : Fx.twoRoot 0 = (536870912, 536870912) := rfl
    have R0 := fun w => twoRoot_any 0 w
    rw [hr0] at R0
    (have hf := hx.2.2; simp only [List.forall_mem_cons, List.not_mem_nil, false_imp_iff, implies_true, and_true, Bx1] at hf; first | have hd := bx_apart4 hx | have hd := bx_apart3 hx | have hd := bx_apart2 hx | have hd := trivial)
    go_enter Try.func43, Try.ntmps43
    go_wp2_with (first | (go_at_call 66; (with_reducible refine (alone_any _ _).mono ?_); rintro e w1 ⟨rfl, hb⟩; replace hx := (Bx.below hx hb).box (268435456) (268435456) 24; clear hb; (try clear hf hd); (have hf := hx.2.2; simp only [List.forall_mem_cons, List.not_mem_nil, false_imp_iff, implies_true, and_true, Bx1] at hf; first | have hd := bx_apart4 hx | have hd := bx_apart3 hx | have hd := bx_apart2 hx | have hd := trivial)) | (go_at_call 38; (with_reducible refine (R0 _).mono ?_); rintro e w2 ⟨rfl, hb⟩; replace hx := (Bx.below hx hb).box (536870912) (536870912) 24; clear hb; (try clear hf hd); (have hf := hx.2.2; simp only [List.forall_mem_cons, List.not_mem_nil, false_imp_iff, implies_true, and_true, Bx1] at hf; first | have hd := bx_apart4 hx | have hd := bx_apart3 hx | have hd := bx_apart2 hx | have hd := trivial)))
    clear R0 hr0
    go_loopw [5] (fun v w' => ∃ n : Nat, n ≤ 16 ∧ v = .int .i64 (n + 1) ∧ Bx w [(w2.heap.size, (Fx.root n).1, (Fx.root n).2), (w1.heap.size, (Fx.twoPow x n).1, (Fx.twoPow x n).2), (w.heap.size, 0, 0)] w') (fun v _ => (18 - intOf v).toNat)
    case atStart => exact ⟨0, by omega, rfl, hx⟩
    case round =>
      clear hx
      obtain ⟨n, hn, rfl, hx⟩ := hrel
      (try clear hf hd); (have hf := hx.2.2; simp only [List.forall_mem_cons, List.not_mem_nil, false_imp_iff, implies_true, and_true, Bx1] at hf; first | have hd := bx_apart4 hx | have hd := bx_apart3 hx | have hd := bx_apart2 hx | have hd := trivial)
      by_cases h4 : n < 16
      · have er : Fx.root (n + 1) = ((Fx.spanSqrt (Fx.root n).1 (Fx.root n).2).1, (Fx.spanSqrt (Fx.root n).1 (Fx.root n).2).2.1) := rfl
        obtain ⟨t1, t0⟩ := twoPow_next x n h4
        by_cases h5 : x / 2 ^ (15 - n) % 2 = 1
        · have e5 := t1 h5
          have hb5 : bits .and .i64 (x / 2 ^ (15 - n)) 1 = 1 := by rw [and_one]; exact h5
          clear t0 t1 h5
          go_wp2_with (first | (go_at_call 34; (with_reducible refine (spanSqrt_any _ _ _).mono ?_); rintro e w1 ⟨rfl, hb⟩; replace hx := Bx.below hx hb; clear hb; (try clear hf hd); (have hf := hx.2.2; simp only [List.forall_mem_cons, List.not_mem_nil, false_imp_iff, implies_true, and_true, Bx1] at hf; first | have hd := bx_apart4 hx | have hd := bx_apart3 hx | have hd := bx_apart2 hx | have hd := trivial)) | (go_at_call 21; (with_reducible refine (spanMul_any _ _ _ _ _).mono ?_); rintro e w1 ⟨rfl, hb⟩; replace hx := Bx.below (hx.set0 _ _) hb; clear hb; (try clear hf hd); (have hf := hx.2.2; simp only [List.forall_mem_cons, List.not_mem_nil, false_imp_iff, implies_true, and_true, Bx1] at hf; first | have hd := bx_apart4 hx | have hd := bx_apart3 hx | have hd := bx_apart2 hx | have hd := trivial)))
          go_roundw
          case rel =>
            refine ⟨n + 1, by omega, by go_num, ?_⟩
            simp only [e5, er]
            exact hx.set1 _ _
          case measure => simp [intOf]; omega
        · have e5 := t0 h5
          have hb5 : bits .and .i64 (x / 2 ^ (15 - n)) 1 = 0 := by rw [and_one]; omega
          clear t0 t1 h5
          go_wp2_with (first | (go_at_call 34; (with_reducible refine (spanSqrt_any _ _ _).mono ?_); rintro e w1 ⟨rfl, hb⟩; replace hx := Bx.below hx hb; clear hb; (try clear hf hd); (have hf := hx.2.2; simp only [List.forall_mem_cons, List.not_mem_nil, false_imp_iff, implies_true, and_true, Bx1] at hf; first | have hd := bx_apart4 hx | have hd := bx_apart3 hx | have hd := bx_apart2 hx | have hd := trivial)))
          go_roundw
          case rel =>
            refine ⟨n + 1, by omega, by go_num, ?_⟩
            simp only [e5, er]
            exact hx.set0 _ _
          case measure => simp [intOf]; omega
      · obtain rfl : n = 16 := by omega
        go_wp2
        (have h9 := hx.set2 ((Fx.twoPow x 16).1) ((Fx.twoPow x 16).2); (try simp only [Exit.inBlock, Exit.then]); exact bodyPost_ret (v := .agg #[.int .i64 (Fx.twoPow x 16).1, .int .i64 (Fx.twoPow x 16).2]) (by first | (simp [results, Try.results43, go_sem]; done) | (have e9 := h9.get2; simp [results, Try.results43, go_sem, e9.1, e9.2])) rfl ⟨rfl, (by first | exact h9.1 | go_grown)⟩)
  · have e : Fx.twoPower x = (0, 0) := if_neg hk
    rw [e]
    have hc : x < 0 ∨ 0 ≤ x ∧ 65535 < x := by omega
    clear e hk
    (have hf := hx.2.2; simp only [List.forall_mem_cons, List.not_mem_nil, false_imp_iff, implies_true, and_true, Bx1] at hf; first | have hd := bx_apart4 hx | have hd := bx_apart3 hx | have hd := bx_apart2 hx | have hd := trivial)
    rcases hc with hc | hc
    all_goals
      go_enter Try.func43, Try.ntmps43
      go_wp2
      (have h9 := hx.set0 (0) (0); (try simp only [Exit.inBlock, Exit.then]); exact bodyPost_ret (v := .agg #[.int .i64 0, .int .i64 0]) (by first | (simp [results, Try.results43, go_sem]; done) | (have e9 := h9.get0; simp [results, Try.results43, go_sem, e9.1, e9.2])) rfl ⟨rfl, (by first | exact h9.1 | go_grown)⟩)

set_option maxHeartbeats 4000000 in
theorem s_twoPower_any (x : Int) (w : World) :
    Calls Try.prog 42 #[.int .i64 x] w fun e w' => e = .returned (.agg #[.int .i64 (Fx.twoPower x).1, .int .i64 (Fx.twoPower x).2]) ∧ Below w.heap.size w w' := by
  by_cases hk : 0 ≤ x ∧ x ≤ 65535
  · have hx := bx_two w 0 0 268435456 268435456 24 24
    have e : Fx.twoPower x = Fx.twoPow x 16 := if_pos hk
    rw [e]
    clear e
    (have hf := hx.2.2; simp only [List.forall_mem_cons, List.not_mem_nil, false_imp_iff, implies_true, and_true, Bx1] at hf; first | have hd := bx_apart4 hx | have hd := bx_apart3 hx | have hd := bx_apart2 hx | have hd := trivial)
    go_enter Try.func42, Try.ntmps42
    go_wp2_with (go_at_call 60; refine (l1In_yes _ _ _ _ ?_).mono ?_; omega; rintro e w' ⟨rfl, rfl⟩)
    go_loopw [4] (fun v w' => ∃ n : Nat, n ≤ 16 ∧ v = .int .i64 (n + 1) ∧ Bx w [(w.heap.size + 1, (Fx.twoPow x n).1, (Fx.twoPow x n).2), (w.heap.size, 0, 0)] w') (fun v _ => (18 - intOf v).toNat)
    case atStart => exact ⟨0, by omega, rfl, hx⟩
    case round =>
      clear hx
      obtain ⟨n, hn, rfl, hx⟩ := hrel
      (try clear hf hd); (have hf := hx.2.2; simp only [List.forall_mem_cons, List.not_mem_nil, false_imp_iff, implies_true, and_true, Bx1] at hf; first | have hd := bx_apart4 hx | have hd := bx_apart3 hx | have hd := bx_apart2 hx | have hd := trivial)
      by_cases h4 : n < 16
      · have er : Fx.twoRoot ((n : Int) + 1) = Fx.root (n + 1) := by
          unfold Fx.twoRoot; rw [if_pos (by omega)]; rfl
        have RN := fun w => s_twoRoot_any ((n : Int) + 1) w
        rw [er] at RN
        obtain ⟨t1, t0⟩ := twoPow_next x n h4
        have p0 : 0 ≤ x / 2 ^ (15 - n) := Int.ediv_nonneg hk.1 (by have := Fx.one_le_pow (15 - n); omega)
        have q0 : (x / 2 ^ (15 - n)).tmod 2 = x / 2 ^ (15 - n) % 2 := Int.tmod_eq_emod_of_nonneg p0
        clear er
        by_cases h5 : x / 2 ^ (15 - n) % 2 = 1
        · have e5 := t1 h5
          rw [h5] at q0
          clear t0 t1 h5
          go_wp2
          go_region_with (first | (go_at_call 37; (with_reducible refine (RN _).mono ?_); rintro e w1 ⟨rfl, hb⟩; (first | replace hx := Bx.below hx hb | replace hx := Bx.below hx.drew hb | replace hx := Bx.below (hx.box 0 0 24) hb | replace hx := Bx.below (hx.boxDrew 0 0 24) hb); clear hb; (try clear hf hd); (have hf := hx.2.2; simp only [List.forall_mem_cons, List.not_mem_nil, false_imp_iff, implies_true, and_true, Bx1] at hf; first | have hd := bx_apart4 hx | have hd := bx_apart3 hx | have hd := bx_apart2 hx | have hd := trivial)) | (go_at_call 19; (with_reducible refine (s_spanMul_any _ _ _ _ _).mono ?_); rintro e w1 ⟨rfl, hb⟩; (first | replace hx := Bx.below hx hb | replace hx := Bx.below hx.drew hb | replace hx := Bx.below (hx.box 0 0 24) hb | replace hx := Bx.below (hx.boxDrew 0 0 24) hb); clear hb; (try clear hf hd); (have hf := hx.2.2; simp only [List.forall_mem_cons, List.not_mem_nil, false_imp_iff, implies_true, and_true, Bx1] at hf; first | have hd := bx_apart4 hx | have hd := bx_apart3 hx | have hd := bx_apart2 hx | have hd := trivial)))
          all_goals
            go_wp2
            go_roundw
          all_goals first
            | (refine ⟨n + 1, by omega, by go_num, ?_⟩
               simp only [e5]
               exact hx.set0 _ _)
            | (simp [intOf]; omega)
        · have e5 := t0 h5
          have q1 : (x / 2 ^ (15 - n)).tmod 2 = 0 := by omega
          clear t0 t1 h5 q0
          go_wp2
          go_roundw
          case rel =>
            refine ⟨n + 1, by omega, by go_num, ?_⟩
            simp only [e5]
            exact hx
          case measure => simp [intOf]; omega
      · obtain rfl : n = 16 := by omega
        go_wp2
        (have h9 := hx.set1 ((Fx.twoPow x 16).1) ((Fx.twoPow x 16).2); (try simp only [Exit.inBlock, Exit.then]); exact bodyPost_ret (v := .agg #[.int .i64 (Fx.twoPow x 16).1, .int .i64 (Fx.twoPow x 16).2]) (by first | (simp [results, Try.results42, go_sem]; done) | (have e9 := h9.get1; simp [results, Try.results42, go_sem, e9.1, e9.2])) rfl ⟨rfl, (by first | exact h9.1 | go_grown)⟩)
  · have hx := bx_one w 0 0 24
    have e : Fx.twoPower x = (0, 0) := if_neg hk
    rw [e]
    have hc : x < 0 ∨ 65535 < x := by omega
    clear e hk
    (have hf := hx.2.2; simp only [List.forall_mem_cons, List.not_mem_nil, false_imp_iff, implies_true, and_true, Bx1] at hf; first | have hd := bx_apart4 hx | have hd := bx_apart3 hx | have hd := bx_apart2 hx | have hd := trivial)
    go_enter Try.func42, Try.ntmps42
    go_wp2_with (go_at_call 60; refine (l1In_no _ _ _ _ ?_).mono ?_; omega; rintro e w' ⟨rfl, rfl⟩)
    (have h9 := hx.set0 (0) (0); (try simp only [Exit.inBlock, Exit.then]); exact bodyPost_ret (v := .agg #[.int .i64 0, .int .i64 0]) (by first | (simp [results, Try.results42, go_sem]; done) | (have e9 := h9.get0; simp [results, Try.results42, go_sem, e9.1, e9.2])) rfl ⟨rfl, (by first | exact h9.1 | go_grown)⟩)

end Go.Proofs.Ytfllhncilfkamaa
