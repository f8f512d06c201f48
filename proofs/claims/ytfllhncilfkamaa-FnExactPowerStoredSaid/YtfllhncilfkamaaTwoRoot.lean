/-
  The walks of roots of 2.
-/
import Derived.Test.YtfllhncilfkamaaSpanSqrt
import Derived.Test.YtfllhncilfkamaaBoxes
import Derived.Test.YtfllhncilfkamaaMathP
namespace Go.Proofs.Ytfllhncilfkamaa
open Go.RowKit

set_option maxHeartbeats 400000 in
theorem alone_any (n : Int) (w : World) :
    Calls Try.prog 66 #[.int .i64 n] w fun e w' => e = .returned (.agg #[.int .i64 n, .int .i64 n]) ∧ Below w.heap.size w w' := by
  have hx := bx_one w 0 0 24
  (have hf := hx.2.2; simp only [List.forall_mem_cons, List.not_mem_nil, false_imp_iff, implies_true, and_true, Bx1] at hf; first | have hd := bx_apart4 hx | have hd := bx_apart3 hx | have hd := bx_apart2 hx | have hd := trivial)
  go_enter Try.func66, Try.ntmps66
  go_wp2
  (have h9 := hx.set0 (n) (n); (try simp only [Exit.inBlock, Exit.then]); exact bodyPost_ret (v := .agg #[.int .i64 n, .int .i64 n]) (by first | (simp [results, Try.results66, go_sem]; done) | (have e9 := h9.get0; simp [results, Try.results66, go_sem, e9.1, e9.2])) rfl ⟨rfl, (by first | exact h9.1 | go_grown)⟩)

set_option maxHeartbeats 2000000 in
theorem twoRoot_any (k : Int) (w : World) :
    Calls Try.prog 38 #[.int .i64 k] w fun e w' => e = .returned (.agg #[.int .i64 (Fx.twoRoot k).1, .int .i64 (Fx.twoRoot k).2]) ∧ Below w.heap.size w w' := by
  have hx := bx_one w 0 0 24
  by_cases hk : 0 ≤ k ∧ k ≤ 16
  · have e : Fx.twoRoot k = Fx.root k.toNat := if_pos hk
    rw [e]
    clear e
    (have hf := hx.2.2; simp only [List.forall_mem_cons, List.not_mem_nil, false_imp_iff, implies_true, and_true, Bx1] at hf; first | have hd := bx_apart4 hx | have hd := bx_apart3 hx | have hd := bx_apart2 hx | have hd := trivial)
    go_enter Try.func38, Try.ntmps38
    go_wp2_with (go_at_call 66; (with_reducible refine (alone_any _ _).mono ?_); rintro e w1 ⟨rfl, hb⟩; replace hx := (Bx.below hx hb).box (536870912) (536870912) 24; clear hb; (try clear hf hd); (have hf := hx.2.2; simp only [List.forall_mem_cons, List.not_mem_nil, false_imp_iff, implies_true, and_true, Bx1] at hf; first | have hd := bx_apart4 hx | have hd := bx_apart3 hx | have hd := bx_apart2 hx | have hd := trivial))
    go_loopw [13] (fun v w' => ∃ n : Nat, n ≤ k.toNat ∧ v = .int .i64 n ∧ Bx w [(w1.heap.size, (Fx.root n).1, (Fx.root n).2), (w.heap.size, 0, 0)] w') (fun v _ => (k - intOf v).toNat)
    case atStart => exact ⟨0, by omega, rfl, hx⟩
    case round =>
      clear hx
      obtain ⟨n, hn, rfl, hx⟩ := hrel
      (try clear hf hd); (have hf := hx.2.2; simp only [List.forall_mem_cons, List.not_mem_nil, false_imp_iff, implies_true, and_true, Bx1] at hf; first | have hd := bx_apart4 hx | have hd := bx_apart3 hx | have hd := bx_apart2 hx | have hd := trivial)
      by_cases h4 : n < k.toNat
      · go_wp2_with (go_at_call 34; (with_reducible refine (spanSqrt_any _ _ _).mono ?_); rintro e w1 ⟨rfl, hb⟩; replace hx := Bx.below hx hb; clear hb; (try clear hf hd); (have hf := hx.2.2; simp only [List.forall_mem_cons, List.not_mem_nil, false_imp_iff, implies_true, and_true, Bx1] at hf; first | have hd := bx_apart4 hx | have hd := bx_apart3 hx | have hd := bx_apart2 hx | have hd := trivial))
        go_roundw
        case rel => exact ⟨n + 1, by omega, by go_num, hx.set0 _ _⟩
        case measure => simp [intOf]; omega
      · obtain rfl : n = k.toNat := by omega
        go_wp2
        (have h9 := hx.set1 ((Fx.root k.toNat).1) ((Fx.root k.toNat).2); (try simp only [Exit.inBlock, Exit.then]); exact bodyPost_ret (v := .agg #[.int .i64 (Fx.root k.toNat).1, .int .i64 (Fx.root k.toNat).2]) (by first | (simp [results, Try.results38, go_sem]; done) | (have e9 := h9.get1; simp [results, Try.results38, go_sem, e9.1, e9.2])) rfl ⟨rfl, (by first | exact h9.1 | go_grown)⟩)
  · have e : Fx.twoRoot k = (0, 0) := if_neg hk
    rw [e]
    have hc : k < 0 ∨ 0 ≤ k ∧ 16 < k := by omega
    clear e hk
    (have hf := hx.2.2; simp only [List.forall_mem_cons, List.not_mem_nil, false_imp_iff, implies_true, and_true, Bx1] at hf; first | have hd := bx_apart4 hx | have hd := bx_apart3 hx | have hd := bx_apart2 hx | have hd := trivial)
    rcases hc with hc | hc
    all_goals
      go_enter Try.func38, Try.ntmps38
      go_wp2
      (have h9 := hx.set0 (0) (0); (try simp only [Exit.inBlock, Exit.then]); exact bodyPost_ret (v := .agg #[.int .i64 0, .int .i64 0]) (by first | (simp [results, Try.results38, go_sem]; done) | (have e9 := h9.get0; simp [results, Try.results38, go_sem, e9.1, e9.2])) rfl ⟨rfl, (by first | exact h9.1 | go_grown)⟩)

set_option maxHeartbeats 2000000 in
theorem s_twoRoot_any (k : Int) (w : World) :
    Calls Try.prog 37 #[.int .i64 k] w fun e w' => e = .returned (.agg #[.int .i64 (Fx.twoRoot k).1, .int .i64 (Fx.twoRoot k).2]) ∧ Below w.heap.size w w' := by
  have hx := bx_two w 0 0 536870912 536870912 24 24
  by_cases hk : 0 ≤ k ∧ k ≤ 16
  · have e : Fx.twoRoot k = Fx.root k.toNat := if_pos hk
    rw [e]
    clear e
    (have hf := hx.2.2; simp only [List.forall_mem_cons, List.not_mem_nil, false_imp_iff, implies_true, and_true, Bx1] at hf; first | have hd := bx_apart4 hx | have hd := bx_apart3 hx | have hd := bx_apart2 hx | have hd := trivial)
    go_enter Try.func37, Try.ntmps37
    go_wp2
    go_loopw [4] (fun v w' => ∃ n : Nat, n ≤ k.toNat ∧ v = .int .i64 n ∧ Bx w [(w.heap.size + 1, (Fx.root n).1, (Fx.root n).2), (w.heap.size, 0, 0)] w') (fun v _ => (k - intOf v).toNat)
    case atStart => exact ⟨0, by omega, rfl, hx⟩
    case round =>
      clear hx
      obtain ⟨n, hn, rfl, hx⟩ := hrel
      (try clear hf hd); (have hf := hx.2.2; simp only [List.forall_mem_cons, List.not_mem_nil, false_imp_iff, implies_true, and_true, Bx1] at hf; first | have hd := bx_apart4 hx | have hd := bx_apart3 hx | have hd := bx_apart2 hx | have hd := trivial)
      by_cases h4 : n < k.toNat
      · go_wp2_with (first | (go_at_call 60; refine (l1In_yes _ _ _ _ ?_).mono ?_; omega; rintro e w' ⟨rfl, rfl⟩) | (go_at_call 33; (with_reducible refine (s_spanSqrt_any _ _ _).mono ?_); rintro e w1 ⟨rfl, hb⟩; replace hx := Bx.below hx hb; clear hb; (try clear hf hd); (have hf := hx.2.2; simp only [List.forall_mem_cons, List.not_mem_nil, false_imp_iff, implies_true, and_true, Bx1] at hf; first | have hd := bx_apart4 hx | have hd := bx_apart3 hx | have hd := bx_apart2 hx | have hd := trivial)))
        go_roundw
        case rel => exact ⟨n + 1, by omega, by go_num, hx.set0 _ _⟩
        case measure => simp [intOf]; omega
      · obtain rfl : n = k.toNat := by omega
        go_wp2_with (go_at_call 60; refine (l1In_yes _ _ _ _ ?_).mono ?_; omega; rintro e w' ⟨rfl, rfl⟩)
        (have h9 := hx.set1 ((Fx.root k.toNat).1) ((Fx.root k.toNat).2); (try simp only [Exit.inBlock, Exit.then]); exact bodyPost_ret (v := .agg #[.int .i64 (Fx.root k.toNat).1, .int .i64 (Fx.root k.toNat).2]) (by first | (simp [results, Try.results37, go_sem]; done) | (have e9 := h9.get1; simp [results, Try.results37, go_sem, e9.1, e9.2])) rfl ⟨rfl, (by first | exact h9.1 | go_grown)⟩)
  · have e : Fx.twoRoot k = (0, 0) := if_neg hk
    rw [e]
    have hc : k < 0 ∨ 0 ≤ k ∧ 16 < k := by omega
    clear e hk
    (have hf := hx.2.2; simp only [List.forall_mem_cons, List.not_mem_nil, false_imp_iff, implies_true, and_true, Bx1] at hf; first | have hd := bx_apart4 hx | have hd := bx_apart3 hx | have hd := bx_apart2 hx | have hd := trivial)
    go_enter Try.func37, Try.ntmps37
    go_wp2
    go_loopw [4] (fun v w' => v = .int .i64 0 ∧ Bx w [(w.heap.size + 1, 536870912, 536870912), (w.heap.size, 0, 0)] w') (fun v _ => 0)
    case atStart => exact ⟨rfl, hx⟩
    case round =>
      clear hx
      obtain ⟨rfl, hx⟩ := hrel
      (try clear hf hd); (have hf := hx.2.2; simp only [List.forall_mem_cons, List.not_mem_nil, false_imp_iff, implies_true, and_true, Bx1] at hf; first | have hd := bx_apart4 hx | have hd := bx_apart3 hx | have hd := bx_apart2 hx | have hd := trivial)
      rcases hc with hc | hc
      all_goals
        go_wp2_with (go_at_call 60; refine (l1In_no _ _ _ _ ?_).mono ?_; omega; rintro e w' ⟨rfl, rfl⟩)
        (have h9 := hx.set1 (0) (0); (try simp only [Exit.inBlock, Exit.then]); exact bodyPost_ret (v := .agg #[.int .i64 0, .int .i64 0]) (by first | (simp [results, Try.results37, go_sem]; done) | (have e9 := h9.get1; simp [results, Try.results37, go_sem, e9.1, e9.2])) rfl ⟨rfl, (by first | exact h9.1 | go_grown)⟩)

end Go.Proofs.Ytfllhncilfkamaa
