/-
  The walks of powers of spans.
-/
import Derived.Test.YtfllhncilfkamaaTwoRoot
import Derived.Test.YtfllhncilfkamaaSpanMul
import Derived.Test.YtfllhncilfkamaaMathS3
namespace Go.Proofs.Ytfllhncilfkamaa
open Go.RowKit

theorem ret_sb {x y x' y' : Int} {k k' : Bool} (h : (x, y, k) = (x', y', k')) : Ending.returned (.tuple #[.agg #[.int .i64 x, .int .i64 y], .bool k]) = .returned (.tuple #[.agg #[.int .i64 x', .int .i64 y'], .bool k']) := by
  simp only [Prod.mk.injEq] at h
  obtain ⟨rfl, rfl, rfl⟩ := h
  rfl
theorem power_in {a b n : Int} (v : Fx.svalid a b) (h : 0 ≤ n ∧ n ≤ 20) : Fx.spanPower a b n = Fx.spanPow a b n.toNat := if_pos ⟨v, h⟩
theorem power_no {a b n : Int} (h : ¬ (Fx.svalid a b ∧ 0 ≤ n ∧ n ≤ 20)) : Fx.spanPower a b n = (0, 0, false) := if_neg h
/-- the next product cannot be: nor can the power -/
theorem power_fail {a b n X Y : Int} {m : Nat} (v : Fx.svalid a b) (h : 0 ≤ n ∧ n ≤ 20) (hm : m < n.toNat) (k : (Fx.spanPow a b m).2.2 = true) (er : Fx.spanMul (Fx.spanPow a b m).1 (Fx.spanPow a b m).2.1 a b = (X, Y, false)) :
    (0, 0, false) = Fx.spanPower a b n := by
  have e1 : (Fx.spanPow a b (m + 1)).2.2 = false := by rw [Fx.spanPow_step a b m k, er]
  have e2 := Fx.spanPow_fail a b (m + 1) e1 (n.toNat - (m + 1))
  rw [show m + 1 + (n.toNat - (m + 1)) = n.toNat by omega] at e2
  rw [power_in v h, e2]
theorem power_end {a b n : Int} (v : Fx.svalid a b) (h : 0 ≤ n ∧ n ≤ 20) (k : (Fx.spanPow a b n.toNat).2.2 = true) :
    ((Fx.spanPow a b n.toNat).1, (Fx.spanPow a b n.toNat).2.1, true) = Fx.spanPower a b n := by
  rw [power_in v h, ← k]

set_option maxHeartbeats 4000000 in
theorem spanPower_any (a b n : Int) (w : World) :
    Calls Try.prog 36 #[.agg #[.int .i64 a, .int .i64 b], .int .i64 n] w
      fun e w' => e = .returned (.tuple #[.agg #[.int .i64 (Fx.spanPower a b n).1, .int .i64 (Fx.spanPower a b n).2.1], .bool (Fx.spanPower a b n).2.2]) ∧ Below w.heap.size w w' := by
  have hx := bx_two w a b 0 0 24 24
  by_cases v1 : Fx.svalid a b
  · have V1 := Lib.hid v1
    by_cases hn : 0 ≤ n ∧ n ≤ 20
    · clear v1
      (have hf := hx.2.2; simp only [List.forall_mem_cons, List.not_mem_nil, false_imp_iff, implies_true, and_true, Bx1] at hf; first | have hd := bx_apart4 hx | have hd := bx_apart3 hx | have hd := bx_apart2 hx | have hd := trivial)
      go_enter Try.func36, Try.ntmps36
      go_wp2_with (first | (go_at_call 32; (with_reducible refine (spanValid_yes _ _ _ V1.out).mono ?_); rintro e w1 ⟨rfl, hb⟩; replace hx := Bx.below hx hb; clear hb; (try clear hf hd); (have hf := hx.2.2; simp only [List.forall_mem_cons, List.not_mem_nil, false_imp_iff, implies_true, and_true, Bx1] at hf; first | have hd := bx_apart4 hx | have hd := bx_apart3 hx | have hd := bx_apart2 hx | have hd := trivial)) | (go_at_call 66; (with_reducible refine (alone_any _ _).mono ?_); rintro e w1 ⟨rfl, hb⟩; replace hx := (Bx.below hx hb).box (268435456) (268435456) 24; clear hb; (try clear hf hd); (have hf := hx.2.2; simp only [List.forall_mem_cons, List.not_mem_nil, false_imp_iff, implies_true, and_true, Bx1] at hf; first | have hd := bx_apart4 hx | have hd := bx_apart3 hx | have hd := bx_apart2 hx | have hd := trivial)))
      go_loopw [7, 8, 23] (fun _ _ v w' => ∃ m : Nat, m ≤ n.toNat ∧ v = .int .i64 m ∧ (Fx.spanPow a b m).2.2 = true ∧ Bx w [(w1.heap.size, (Fx.spanPow a b m).1, (Fx.spanPow a b m).2.1), (w.heap.size + 1, 0, 0), (w.heap.size, a, b)] w') (fun _ _ v _ => (n - intOf v).toNat)
      case atStart => exact ⟨0, by omega, rfl, rfl, hx⟩
      case round =>
        clear hx
        obtain ⟨m, hm, rfl, hk, hx⟩ := hrel
        (try clear hf hd); (have hf := hx.2.2; simp only [List.forall_mem_cons, List.not_mem_nil, false_imp_iff, implies_true, and_true, Bx1] at hf; first | have hd := bx_apart4 hx | have hd := bx_apart3 hx | have hd := bx_apart2 hx | have hd := trivial)
        by_cases h4 : m < n.toNat
        · obtain ⟨X, Y, k, er⟩ : ∃ X Y k, Fx.spanMul (Fx.spanPow a b m).1 (Fx.spanPow a b m).2.1 a b = (X, Y, k) := ⟨_, _, _, rfl⟩
          have RN := fun w => spanMul_any (Fx.spanPow a b m).1 (Fx.spanPow a b m).2.1 a b w
          rw [er] at RN
          cases k
          · have E := Lib.hid (power_fail V1.out hn h4 hk er)
            clear er
            go_wp2_with (go_at_call 21; (with_reducible refine (RN _).mono ?_); rintro e w2 ⟨rfl, hb⟩; replace hx := (Bx.below hx hb).box (X) (Y) 24; clear hb; (try clear hf hd); (have hf := hx.2.2; simp only [List.forall_mem_cons, List.not_mem_nil, false_imp_iff, implies_true, and_true, Bx1] at hf; first | have hd := bx_apart4 hx | have hd := bx_apart3 hx | have hd := bx_apart2 hx | have hd := trivial))
            (have h9 := hx.set2 (0) (0); (try simp only [Exit.inBlock, Exit.then]); exact bodyPost_ret (v := .tuple #[.agg #[.int .i64 0, .int .i64 0], .bool false]) (by first | (simp [results, Try.results36, go_sem]; done) | (have e9 := h9.get2; simp [results, Try.results36, go_sem, e9.1, e9.2])) rfl ⟨ret_sb E.out, (by first | exact h9.1 | go_grown)⟩)
          · have es := Fx.spanPow_step a b m hk
            rw [er] at es
            clear er
            go_wp2_with (go_at_call 21; (with_reducible refine (RN _).mono ?_); rintro e w2 ⟨rfl, hb⟩; replace hx := (Bx.below hx hb).box (X) (Y) 24; clear hb; (try clear hf hd); (have hf := hx.2.2; simp only [List.forall_mem_cons, List.not_mem_nil, false_imp_iff, implies_true, and_true, Bx1] at hf; first | have hd := bx_apart4 hx | have hd := bx_apart3 hx | have hd := bx_apart2 hx | have hd := trivial))
            go_roundw
            case rel =>
              refine ⟨m + 1, by omega, by go_num, by rw [es], ?_⟩
              rw [es]
              exact (hx.set1 _ _).tail
            case measure => simp [intOf]; omega
        · obtain rfl : m = n.toNat := by omega
          have E := Lib.hid (power_end V1.out hn hk)
          go_wp2
          (have h9 := hx.set1 ((Fx.spanPow a b n.toNat).1) ((Fx.spanPow a b n.toNat).2.1); (try simp only [Exit.inBlock, Exit.then]); exact bodyPost_ret (v := .tuple #[.agg #[.int .i64 (Fx.spanPow a b n.toNat).1, .int .i64 (Fx.spanPow a b n.toNat).2.1], .bool true]) (by first | (simp [results, Try.results36, go_sem]; done) | (have e9 := h9.get1; simp [results, Try.results36, go_sem, e9.1, e9.2])) rfl ⟨ret_sb E.out, (by first | exact h9.1 | go_grown)⟩)
    · have e := power_no (a := a) (b := b) (n := n) (fun k => hn k.2)
      simp only [e]
      have hc : n < 0 ∨ 0 ≤ n ∧ 20 < n := by omega
      clear e v1 hn
      (have hf := hx.2.2; simp only [List.forall_mem_cons, List.not_mem_nil, false_imp_iff, implies_true, and_true, Bx1] at hf; first | have hd := bx_apart4 hx | have hd := bx_apart3 hx | have hd := bx_apart2 hx | have hd := trivial)
      rcases hc with hc | hc
      all_goals
        go_enter Try.func36, Try.ntmps36
        go_wp2_with (first | (go_at_call 32; (with_reducible refine (spanValid_yes _ _ _ V1.out).mono ?_); rintro e w1 ⟨rfl, hb⟩; replace hx := Bx.below hx hb; clear hb; (try clear hf hd); (have hf := hx.2.2; simp only [List.forall_mem_cons, List.not_mem_nil, false_imp_iff, implies_true, and_true, Bx1] at hf; first | have hd := bx_apart4 hx | have hd := bx_apart3 hx | have hd := bx_apart2 hx | have hd := trivial)))
        (have h9 := hx.set0 (0) (0); (try simp only [Exit.inBlock, Exit.then]); exact bodyPost_ret (v := .tuple #[.agg #[.int .i64 0, .int .i64 0], .bool false]) (by first | (simp [results, Try.results36, go_sem]; done) | (have e9 := h9.get0; simp [results, Try.results36, go_sem, e9.1, e9.2])) rfl ⟨rfl, (by first | exact h9.1 | go_grown)⟩)
  · have e := power_no (a := a) (b := b) (n := n) (fun k => v1 k.1)
    simp only [e]
    have V1 := Lib.hid v1
    clear v1 e
    (have hf := hx.2.2; simp only [List.forall_mem_cons, List.not_mem_nil, false_imp_iff, implies_true, and_true, Bx1] at hf; first | have hd := bx_apart4 hx | have hd := bx_apart3 hx | have hd := bx_apart2 hx | have hd := trivial)
    go_enter Try.func36, Try.ntmps36
    go_wp2_with (first | (go_at_call 32; (with_reducible refine (spanValid_no _ _ _ V1.out).mono ?_); rintro e w1 ⟨rfl, hb⟩; replace hx := Bx.below hx hb; clear hb; (try clear hf hd); (have hf := hx.2.2; simp only [List.forall_mem_cons, List.not_mem_nil, false_imp_iff, implies_true, and_true, Bx1] at hf; first | have hd := bx_apart4 hx | have hd := bx_apart3 hx | have hd := bx_apart2 hx | have hd := trivial)))
    (have h9 := hx.set0 (0) (0); (try simp only [Exit.inBlock, Exit.then]); exact bodyPost_ret (v := .tuple #[.agg #[.int .i64 0, .int .i64 0], .bool false]) (by first | (simp [results, Try.results36, go_sem]; done) | (have e9 := h9.get0; simp [results, Try.results36, go_sem, e9.1, e9.2])) rfl ⟨rfl, (by first | exact h9.1 | go_grown)⟩)

set_option maxHeartbeats 4000000 in
theorem s_spanPower_any (a b n : Int) (w : World) :
    Calls Try.prog 35 #[.agg #[.int .i64 a, .int .i64 b], .int .i64 n] w
      fun e w' => e = .returned (.tuple #[.agg #[.int .i64 (Fx.spanPower a b n).1, .int .i64 (Fx.spanPower a b n).2.1], .bool (Fx.spanPower a b n).2.2]) ∧ Below w.heap.size w w' := by
  have hx := bx_two w a b 0 0 24 24
  by_cases v1 : Fx.svalid a b
  · have V1 := Lib.hid v1
    by_cases hn : 0 ≤ n ∧ n ≤ 20
    · clear v1
      (have hf := hx.2.2; simp only [List.forall_mem_cons, List.not_mem_nil, false_imp_iff, implies_true, and_true, Bx1] at hf; first | have hd := bx_apart4 hx | have hd := bx_apart3 hx | have hd := bx_apart2 hx | have hd := trivial)
      go_enter Try.func35, Try.ntmps35
      go_wp2_with (first | (go_at_call 26; (with_reducible refine (s_spanValid_yes _ _ _ V1.out).mono ?_); rintro e w1 ⟨rfl, hb⟩; replace hx := Bx.below hx hb; clear hb; (try clear hf hd); (have hf := hx.2.2; simp only [List.forall_mem_cons, List.not_mem_nil, false_imp_iff, implies_true, and_true, Bx1] at hf; first | have hd := bx_apart4 hx | have hd := bx_apart3 hx | have hd := bx_apart2 hx | have hd := trivial)) | (go_at_call 60; refine (l1In_yes _ _ _ _ ?_).mono ?_; omega; rintro e w1 ⟨rfl, rfl⟩; replace hx := hx.box 268435456 268435456 24; (try clear hf hd); (have hf := hx.2.2; simp only [List.forall_mem_cons, List.not_mem_nil, false_imp_iff, implies_true, and_true, Bx1] at hf; first | have hd := bx_apart4 hx | have hd := bx_apart3 hx | have hd := bx_apart2 hx | have hd := trivial)))
      go_loopw [7, 8, 9] (fun v _ _ w' => ∃ m : Nat, m ≤ n.toNat ∧ v = .int .i64 m ∧ (Fx.spanPow a b m).2.2 = true ∧ Bx w [(w1.heap.size, (Fx.spanPow a b m).1, (Fx.spanPow a b m).2.1), (w.heap.size + 1, 0, 0), (w.heap.size, a, b)] w') (fun v _ _ _ => (n - intOf v).toNat)
      case atStart => exact ⟨0, by omega, rfl, rfl, hx⟩
      case round =>
        clear hx
        obtain ⟨m, hm, rfl, hk, hx⟩ := hrel
        (try clear hf hd); (have hf := hx.2.2; simp only [List.forall_mem_cons, List.not_mem_nil, false_imp_iff, implies_true, and_true, Bx1] at hf; first | have hd := bx_apart4 hx | have hd := bx_apart3 hx | have hd := bx_apart2 hx | have hd := trivial)
        by_cases h4 : m < n.toNat
        · obtain ⟨X, Y, k, er⟩ : ∃ X Y k, Fx.spanMul (Fx.spanPow a b m).1 (Fx.spanPow a b m).2.1 a b = (X, Y, k) := ⟨_, _, _, rfl⟩
          have RN := fun w => s_spanMul_any (Fx.spanPow a b m).1 (Fx.spanPow a b m).2.1 a b w
          rw [er] at RN
          cases k
          · have E := Lib.hid (power_fail V1.out hn h4 hk er)
            clear er
            go_wp2_with (go_at_call 19; (with_reducible refine (RN _).mono ?_); rintro e w2 ⟨rfl, hb⟩; replace hx := (Bx.below hx hb).box (X) (Y) 24; clear hb; (try clear hf hd); (have hf := hx.2.2; simp only [List.forall_mem_cons, List.not_mem_nil, false_imp_iff, implies_true, and_true, Bx1] at hf; first | have hd := bx_apart4 hx | have hd := bx_apart3 hx | have hd := bx_apart2 hx | have hd := trivial))
            (have h9 := hx.set2 (0) (0); (try simp only [Exit.inBlock, Exit.then]); exact bodyPost_ret (v := .tuple #[.agg #[.int .i64 0, .int .i64 0], .bool false]) (by first | (simp [results, Try.results35, go_sem]; done) | (have e9 := h9.get2; simp [results, Try.results35, go_sem, e9.1, e9.2])) rfl ⟨ret_sb E.out, (by first | exact h9.1 | go_grown)⟩)
          · have es := Fx.spanPow_step a b m hk
            rw [er] at es
            clear er
            go_wp2_with (go_at_call 19; (with_reducible refine (RN _).mono ?_); rintro e w2 ⟨rfl, hb⟩; replace hx := (Bx.below hx hb).box (X) (Y) 24; clear hb; (try clear hf hd); (have hf := hx.2.2; simp only [List.forall_mem_cons, List.not_mem_nil, false_imp_iff, implies_true, and_true, Bx1] at hf; first | have hd := bx_apart4 hx | have hd := bx_apart3 hx | have hd := bx_apart2 hx | have hd := trivial))
            go_roundw
            case rel =>
              refine ⟨m + 1, by omega, by go_num, by rw [es], ?_⟩
              rw [es]
              exact (hx.set1 _ _).tail
            case measure => simp [intOf]; omega
        · obtain rfl : m = n.toNat := by omega
          have E := Lib.hid (power_end V1.out hn hk)
          go_wp2
          (have h9 := hx.set1 ((Fx.spanPow a b n.toNat).1) ((Fx.spanPow a b n.toNat).2.1); (try simp only [Exit.inBlock, Exit.then]); exact bodyPost_ret (v := .tuple #[.agg #[.int .i64 (Fx.spanPow a b n.toNat).1, .int .i64 (Fx.spanPow a b n.toNat).2.1], .bool true]) (by first | (simp [results, Try.results35, go_sem]; done) | (have e9 := h9.get1; simp [results, Try.results35, go_sem, e9.1, e9.2])) rfl ⟨ret_sb E.out, (by first | exact h9.1 | go_grown)⟩)
    · have e := power_no (a := a) (b := b) (n := n) (fun k => hn k.2)
      simp only [e]
      have hc : n < 0 ∨ 20 < n := by omega
      clear e v1 hn
      (have hf := hx.2.2; simp only [List.forall_mem_cons, List.not_mem_nil, false_imp_iff, implies_true, and_true, Bx1] at hf; first | have hd := bx_apart4 hx | have hd := bx_apart3 hx | have hd := bx_apart2 hx | have hd := trivial)
      go_enter Try.func35, Try.ntmps35
      go_wp2_with (first | (go_at_call 26; (with_reducible refine (s_spanValid_yes _ _ _ V1.out).mono ?_); rintro e w1 ⟨rfl, hb⟩; replace hx := Bx.below hx hb; clear hb; (try clear hf hd); (have hf := hx.2.2; simp only [List.forall_mem_cons, List.not_mem_nil, false_imp_iff, implies_true, and_true, Bx1] at hf; first | have hd := bx_apart4 hx | have hd := bx_apart3 hx | have hd := bx_apart2 hx | have hd := trivial)) | (go_at_call 60; refine (l1In_no _ _ _ _ ?_).mono ?_; omega; rintro e w' ⟨rfl, rfl⟩))
      (have h9 := hx.set0 (0) (0); (try simp only [Exit.inBlock, Exit.then]); exact bodyPost_ret (v := .tuple #[.agg #[.int .i64 0, .int .i64 0], .bool false]) (by first | (simp [results, Try.results35, go_sem]; done) | (have e9 := h9.get0; simp [results, Try.results35, go_sem, e9.1, e9.2])) rfl ⟨rfl, (by first | exact h9.1 | go_grown)⟩)
  · have e := power_no (a := a) (b := b) (n := n) (fun k => v1 k.1)
    simp only [e]
    have V1 := Lib.hid v1
    clear v1 e
    (have hf := hx.2.2; simp only [List.forall_mem_cons, List.not_mem_nil, false_imp_iff, implies_true, and_true, Bx1] at hf; first | have hd := bx_apart4 hx | have hd := bx_apart3 hx | have hd := bx_apart2 hx | have hd := trivial)
    go_enter Try.func35, Try.ntmps35
    go_wp2_with (first | (go_at_call 26; (with_reducible refine (s_spanValid_no _ _ _ V1.out).mono ?_); rintro e w1 ⟨rfl, hb⟩; replace hx := Bx.below hx hb; clear hb; (try clear hf hd); (have hf := hx.2.2; simp only [List.forall_mem_cons, List.not_mem_nil, false_imp_iff, implies_true, and_true, Bx1] at hf; first | have hd := bx_apart4 hx | have hd := bx_apart3 hx | have hd := bx_apart2 hx | have hd := trivial)))
    (have h9 := hx.set0 (0) (0); (try simp only [Exit.inBlock, Exit.then]); exact bodyPost_ret (v := .tuple #[.agg #[.int .i64 0, .int .i64 0], .bool false]) (by first | (simp [results, Try.results35, go_sem]; done) | (have e9 := h9.get0; simp [results, Try.results35, go_sem, e9.1, e9.2])) rfl ⟨rfl, (by first | exact h9.1 | go_grown)⟩)

end Go.Proofs.Ytfllhncilfkamaa
