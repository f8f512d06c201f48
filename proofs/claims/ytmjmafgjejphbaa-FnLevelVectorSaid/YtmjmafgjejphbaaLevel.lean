/-
  The walks of levelled vectors.
-/
import Derived.Test.YtmjmafgjejphbaaTurn
namespace Go.Proofs.Ytmjmafgjejphbaa
open Go.RowKit

set_option maxHeartbeats 4000000 in
theorem levelVector_any (X Y n : Int) (w : World) :
    Calls Try.prog 67 #[.agg #[.int .i64 X, .int .i64 Y], .int .i64 n] w fun e w' => e = .returned (LevelV X Y n) ∧ Below w.heap.size w w' := by
  have hx := bx_two w X Y 0 0 46 46
  (have hf := hx.2.2; simp only [List.forall_mem_cons, List.not_mem_nil, false_imp_iff, implies_true, and_true, Bx1] at hf; first | have hd := bx_apart4 hx | have hd := bx_apart3 hx | have hd := bx_apart2 hx | have hd := trivial)
  by_cases hv : Fx.VecIn X Y
  · have V := Lib.hid hv
    by_cases hn : 0 ≤ n ∧ n ≤ 20
    · have e : Fx.levelVector X Y n = ((Fx.level X Y n.toNat).1, (Fx.level X Y n.toNat).2.1, (Fx.level X Y n.toNat).2.2, true) := if_pos ⟨hv, hn⟩
      unfold LevelV
      simp only [e]
      obtain ⟨N, rfl⟩ : ∃ N : Nat, n = N := ⟨n.toNat, by omega⟩
      rw [show ((N : Int)).toNat = N by omega]
      have SA := fun w => stepAngles_any N w
      rw [show stepN N = N by unfold stepN; rw [if_pos (by omega)]; omega] at SA
      clear e
      go_enter Try.func67, Try.ntmps67
      go_wp2_with (first | (go_at_call 100; (with_reducible refine (vwithin_yes _ _ _ V.out).mono ?_); rintro e w1 ⟨rfl, hb⟩; replace hx := Bx.below hx hb; clear hb; (try clear hf hd); (have hf := hx.2.2; simp only [List.forall_mem_cons, List.not_mem_nil, false_imp_iff, implies_true, and_true, Bx1] at hf; first | have hd := bx_apart4 hx | have hd := bx_apart3 hx | have hd := bx_apart2 hx | have hd := trivial)))
      refine (SA _).mono ?_
      rintro e w2 ⟨v2, rfl, o2, b2⟩
      obtain ⟨g1, cap, rfl, l1, r1⟩ := owns_is o2 (fun i hi => stepL_at N i hi)
      have hR : Rb w g1 N Fx.stepA [(w.heap.size + 1, 0, 0), (w.heap.size, X, Y)] w2 := ⟨hx.below b2, r1, by
        intro g hg
        subst hg
        have h1 := (o2.lt g rfl).1
        have h2 := hf.1.1
        have h3 := hf.2.1
        simp; omega⟩
      clear hf hd hx b2 r1 o2 SA
      go_wp2_with fail
      go_loopw [7, 26] (fun t i w' => ∃ k : Nat, k ≤ N ∧ i = .int .i64 k ∧ t = .int .i64 (Fx.level X Y k).2.2 ∧ Rb w g1 N Fx.stepA [(w.heap.size + 1, 0, 0), (w.heap.size, (Fx.level X Y k).1, (Fx.level X Y k).2.1)] w') (fun _ i _ => (N - intOf i).toNat)
      case atStart => exact ⟨0, by omega, rfl, rfl, hR⟩
      case round =>
        clear hR
        obtain ⟨k, hk, rfl, rfl, hR⟩ := hrel
        by_cases h4 : k < N
        · obtain ⟨x, y, t, x', y', t', e1, e2, bx, by', bt, h5, h6⟩ := level_pack hv k (by omega)
          rw [e1] at hR
          simp only [e1]
          obtain ⟨g, rfl, -, c1⟩ := hR.row k h4
          have sA := Fx.step_size k (by omega)
          have hx := hR.bx
          (have hf := hx.2.2; simp only [List.forall_mem_cons, List.not_mem_nil, false_imp_iff, implies_true, and_true, Bx1] at hf; first | have hd := bx_apart4 hx | have hd := bx_apart3 hx | have hd := bx_apart2 hx | have hd := trivial)
          by_cases h0 : 0 < y
          · obtain ⟨h7, h8⟩ := h5 h0
            have V1 := fun w => vstep_any x y k false w bx by' (by omega)
            rw [h7] at V1
            rw [show signOf false = -1 from rfl] at V1
            have G1 := fun w => signed_neg (Fx.stepA k) w (by omega)
            have hs := shr63_neg (-y) (by omega)
            clear h5 h6 h7 V
            go_wp2_with (first | (go_at_call 101; (with_reducible refine (V1 _).mono ?_); rintro e w3 ⟨rfl, b3⟩; replace hR := hR.below b3; clear b3 hf hd hx; have hx := hR.bx; (have hf := hx.2.2; simp only [List.forall_mem_cons, List.not_mem_nil, false_imp_iff, implies_true, and_true, Bx1] at hf; first | have hd := bx_apart4 hx | have hd := bx_apart3 hx | have hd := bx_apart2 hx | have hd := trivial)) | (go_at_call 102; (with_reducible refine (G1 _).mono ?_); rintro e w' ⟨rfl, rfl⟩))
            go_roundw
            case rel => exact ⟨k + 1, by omega, by go_num, by rw [e2]; simp; omega, by rw [e2]; exact hR.set1 _ _⟩
            case measure => simp [intOf]; omega
          · obtain ⟨h7, h8⟩ := h6 h0
            have V1 := fun w => vstep_any x y k true w bx by' (by omega)
            rw [h7] at V1
            rw [show signOf true = 0 from rfl] at V1
            have G1 := fun w => signed_pos (Fx.stepA k) w (by omega)
            have hs := shr63_pos (-y) (by omega)
            clear h5 h6 h7 V
            go_wp2_with (first | (go_at_call 101; (with_reducible refine (V1 _).mono ?_); rintro e w3 ⟨rfl, b3⟩; replace hR := hR.below b3; clear b3 hf hd hx; have hx := hR.bx; (have hf := hx.2.2; simp only [List.forall_mem_cons, List.not_mem_nil, false_imp_iff, implies_true, and_true, Bx1] at hf; first | have hd := bx_apart4 hx | have hd := bx_apart3 hx | have hd := bx_apart2 hx | have hd := trivial)) | (go_at_call 102; (with_reducible refine (G1 _).mono ?_); rintro e w' ⟨rfl, rfl⟩))
            go_roundw
            case rel => exact ⟨k + 1, by omega, by go_num, by rw [e2]; simp; omega, by rw [e2]; exact hR.set1 _ _⟩
            case measure => simp [intOf]; omega
        · obtain rfl : k = N := by omega
          obtain ⟨x, y, t, hz⟩ : ∃ x y t, Fx.level X Y k = (x, y, t) := ⟨_, _, _, rfl⟩
          rw [hz] at hR
          simp only [hz]
          have hx := hR.bx
          clear V
          (have hf := hx.2.2; simp only [List.forall_mem_cons, List.not_mem_nil, false_imp_iff, implies_true, and_true, Bx1] at hf; first | have hd := bx_apart4 hx | have hd := bx_apart3 hx | have hd := bx_apart2 hx | have hd := trivial)
          go_wp2
          (have h9 := hx.set0 (x) (y); (try simp only [Exit.inBlock, Exit.then]); exact bodyPost_ret (v := .tuple #[.agg #[.int .i64 x, .int .i64 y], .int .i64 t, .bool true]) (by first | (simp [results, Try.results67, go_sem]; done) | (have e9 := h9.get0; simp [results, Try.results67, go_sem, e9.1, e9.2])) rfl ⟨rfl, (by first | exact h9.1 | go_grown)⟩)
    · have e : Fx.levelVector X Y n = (0, 0, 0, false) := if_neg (fun k => hn k.2)
      unfold LevelV
      simp only [e]
      have hc : n < 0 ∨ 0 ≤ n ∧ 20 < n := by omega
      clear e hn
      rcases hc with hc | hc
      all_goals
        go_enter Try.func67, Try.ntmps67
        go_wp2_with (first | (go_at_call 100; (with_reducible refine (vwithin_yes _ _ _ V.out).mono ?_); rintro e w1 ⟨rfl, hb⟩; replace hx := Bx.below hx hb; clear hb; (try clear hf hd); (have hf := hx.2.2; simp only [List.forall_mem_cons, List.not_mem_nil, false_imp_iff, implies_true, and_true, Bx1] at hf; first | have hd := bx_apart4 hx | have hd := bx_apart3 hx | have hd := bx_apart2 hx | have hd := trivial)))
        (have h9 := hx.set0 (0) (0); (try simp only [Exit.inBlock, Exit.then]); exact bodyPost_ret (v := .tuple #[.agg #[.int .i64 0, .int .i64 0], .int .i64 0, .bool false]) (by first | (simp [results, Try.results67, go_sem]; done) | (have e9 := h9.get0; simp [results, Try.results67, go_sem, e9.1, e9.2])) rfl ⟨rfl, (by first | exact h9.1 | go_grown)⟩)
  · have e : Fx.levelVector X Y n = (0, 0, 0, false) := if_neg (fun k => hv k.1)
    unfold LevelV
    simp only [e]
    have V := Lib.hid hv
    clear e hv
    go_enter Try.func67, Try.ntmps67
    go_wp2_with (first | (go_at_call 100; (with_reducible refine (vwithin_no _ _ _ V.out).mono ?_); rintro e w1 ⟨rfl, hb⟩; replace hx := Bx.below hx hb; clear hb; (try clear hf hd); (have hf := hx.2.2; simp only [List.forall_mem_cons, List.not_mem_nil, false_imp_iff, implies_true, and_true, Bx1] at hf; first | have hd := bx_apart4 hx | have hd := bx_apart3 hx | have hd := bx_apart2 hx | have hd := trivial)))
    (have h9 := hx.set0 (0) (0); (try simp only [Exit.inBlock, Exit.then]); exact bodyPost_ret (v := .tuple #[.agg #[.int .i64 0, .int .i64 0], .int .i64 0, .bool false]) (by first | (simp [results, Try.results67, go_sem]; done) | (have e9 := h9.get0; simp [results, Try.results67, go_sem, e9.1, e9.2])) rfl ⟨rfl, (by first | exact h9.1 | go_grown)⟩)

set_option maxHeartbeats 4000000 in
theorem s_levelVector_any (X Y n : Int) (w : World) :
    Calls Try.prog 66 #[.agg #[.int .i64 X, .int .i64 Y], .int .i64 n] w fun e w' => e = .returned (LevelV X Y n) ∧ Below w.heap.size w w' := by
  have hx := bx_two w X Y 0 0 46 46
  (have hf := hx.2.2; simp only [List.forall_mem_cons, List.not_mem_nil, false_imp_iff, implies_true, and_true, Bx1] at hf; first | have hd := bx_apart4 hx | have hd := bx_apart3 hx | have hd := bx_apart2 hx | have hd := trivial)
  by_cases hv : Fx.VecIn X Y
  · have V := Lib.hid hv
    by_cases hn : 0 ≤ n ∧ n ≤ 20
    · have e : Fx.levelVector X Y n = ((Fx.level X Y n.toNat).1, (Fx.level X Y n.toNat).2.1, (Fx.level X Y n.toNat).2.2, true) := if_pos ⟨hv, hn⟩
      unfold LevelV
      simp only [e]
      obtain ⟨N, rfl⟩ : ∃ N : Nat, n = N := ⟨n.toNat, by omega⟩
      rw [show ((N : Int)).toNat = N by omega]
      clear e
      go_enter Try.func66, Try.ntmps66
      go_wp2_with (first | (go_at_call 98; (with_reducible refine (l14Vector_yes _ _ _ V.out).mono ?_); rintro e w1 ⟨rfl, hb⟩; replace hx := Bx.below hx hb; clear hb; (try clear hf hd); (have hf := hx.2.2; simp only [List.forall_mem_cons, List.not_mem_nil, false_imp_iff, implies_true, and_true, Bx1] at hf; first | have hd := bx_apart4 hx | have hd := bx_apart3 hx | have hd := bx_apart2 hx | have hd := trivial)) | (go_at_call 78; (with_reducible refine (l1In_yes _ _ _ _ (by omega)).mono ?_); rintro e w' ⟨rfl, rfl⟩))
      go_loopw [7, 8] (fun t i w' => ∃ k : Nat, k ≤ N ∧ i = .int .i64 k ∧ t = .int .i64 (Fx.level X Y k).2.2 ∧ Bx w [(w.heap.size + 1, 0, 0), (w.heap.size, (Fx.level X Y k).1, (Fx.level X Y k).2.1)] w') (fun _ i _ => (N - intOf i).toNat)
      case atStart => exact ⟨0, by omega, rfl, rfl, hx⟩
      case round =>
        clear hx hf hd
        obtain ⟨k, hk, rfl, rfl, hx⟩ := hrel
        by_cases h4 : k < N
        · obtain ⟨x, y, t, x', y', t', e1, e2, bx, by', bt, h5, h6⟩ := level_pack hv k (by omega)
          rw [e1] at hx
          simp only [e1]
          have sA := Fx.step_size k (by omega)
          have ST := fun w => s_stepAngle_nat k (by omega) w
          (have hf := hx.2.2; simp only [List.forall_mem_cons, List.not_mem_nil, false_imp_iff, implies_true, and_true, Bx1] at hf; first | have hd := bx_apart4 hx | have hd := bx_apart3 hx | have hd := bx_apart2 hx | have hd := trivial)
          by_cases h0 : 0 < y
          · obtain ⟨h7, h8⟩ := h5 h0
            have V1 := fun w => l14Step_any x y k false w bx by' (by omega)
            rw [h7] at V1
            clear h5 h6 h7 V
            go_wp2_with (first | (go_at_call 99; (with_reducible refine (V1 _).mono ?_); rintro e w1 ⟨rfl, hb⟩; replace hx := Bx.below hx hb; clear hb; (try clear hf hd); (have hf := hx.2.2; simp only [List.forall_mem_cons, List.not_mem_nil, false_imp_iff, implies_true, and_true, Bx1] at hf; first | have hd := bx_apart4 hx | have hd := bx_apart3 hx | have hd := bx_apart2 hx | have hd := trivial)) | (go_at_call 49; (with_reducible refine (ST _).mono ?_); rintro e w1 ⟨rfl, hb⟩; replace hx := Bx.below (hx.set1 x' y') hb; clear hb; (try clear hf hd); (have hf := hx.2.2; simp only [List.forall_mem_cons, List.not_mem_nil, false_imp_iff, implies_true, and_true, Bx1] at hf; first | have hd := bx_apart4 hx | have hd := bx_apart3 hx | have hd := bx_apart2 hx | have hd := trivial)))
            go_roundw
            case rel => exact ⟨k + 1, by omega, by go_num, by rw [e2]; simp; omega, by rw [e2]; exact hx⟩
            case measure => simp [intOf]; omega
          · obtain ⟨h7, h8⟩ := h6 h0
            have V1 := fun w => l14Step_any x y k true w bx by' (by omega)
            rw [h7] at V1
            clear h5 h6 h7 V
            go_wp2_with (first | (go_at_call 99; (with_reducible refine (V1 _).mono ?_); rintro e w1 ⟨rfl, hb⟩; replace hx := Bx.below hx hb; clear hb; (try clear hf hd); (have hf := hx.2.2; simp only [List.forall_mem_cons, List.not_mem_nil, false_imp_iff, implies_true, and_true, Bx1] at hf; first | have hd := bx_apart4 hx | have hd := bx_apart3 hx | have hd := bx_apart2 hx | have hd := trivial)) | (go_at_call 49; (with_reducible refine (ST _).mono ?_); rintro e w1 ⟨rfl, hb⟩; replace hx := Bx.below (hx.set1 x' y') hb; clear hb; (try clear hf hd); (have hf := hx.2.2; simp only [List.forall_mem_cons, List.not_mem_nil, false_imp_iff, implies_true, and_true, Bx1] at hf; first | have hd := bx_apart4 hx | have hd := bx_apart3 hx | have hd := bx_apart2 hx | have hd := trivial)))
            go_roundw
            case rel => exact ⟨k + 1, by omega, by go_num, by rw [e2]; simp; omega, by rw [e2]; exact hx⟩
            case measure => simp [intOf]; omega
        · obtain rfl : k = N := by omega
          obtain ⟨x, y, t, hz⟩ : ∃ x y t, Fx.level X Y k = (x, y, t) := ⟨_, _, _, rfl⟩
          rw [hz] at hx
          simp only [hz]
          clear V
          (have hf := hx.2.2; simp only [List.forall_mem_cons, List.not_mem_nil, false_imp_iff, implies_true, and_true, Bx1] at hf; first | have hd := bx_apart4 hx | have hd := bx_apart3 hx | have hd := bx_apart2 hx | have hd := trivial)
          go_wp2
          (have h9 := hx.set0 (x) (y); (try simp only [Exit.inBlock, Exit.then]); exact bodyPost_ret (v := .tuple #[.agg #[.int .i64 x, .int .i64 y], .int .i64 t, .bool true]) (by first | (simp [results, Try.results66, go_sem]; done) | (have e9 := h9.get0; simp [results, Try.results66, go_sem, e9.1, e9.2])) rfl ⟨rfl, (by first | exact h9.1 | go_grown)⟩)
    · have e : Fx.levelVector X Y n = (0, 0, 0, false) := if_neg (fun k => hn k.2)
      unfold LevelV
      simp only [e]
      have hc : n < 0 ∨ 20 < n := by omega
      clear e hn
      go_enter Try.func66, Try.ntmps66
      go_wp2_with (first | (go_at_call 98; (with_reducible refine (l14Vector_yes _ _ _ V.out).mono ?_); rintro e w1 ⟨rfl, hb⟩; replace hx := Bx.below hx hb; clear hb; (try clear hf hd); (have hf := hx.2.2; simp only [List.forall_mem_cons, List.not_mem_nil, false_imp_iff, implies_true, and_true, Bx1] at hf; first | have hd := bx_apart4 hx | have hd := bx_apart3 hx | have hd := bx_apart2 hx | have hd := trivial)) | (go_at_call 78; (with_reducible refine (l1In_no _ _ _ _ (by omega)).mono ?_); rintro e w' ⟨rfl, rfl⟩))
      (have h9 := hx.set0 (0) (0); (try simp only [Exit.inBlock, Exit.then]); exact bodyPost_ret (v := .tuple #[.agg #[.int .i64 0, .int .i64 0], .int .i64 0, .bool false]) (by first | (simp [results, Try.results66, go_sem]; done) | (have e9 := h9.get0; simp [results, Try.results66, go_sem, e9.1, e9.2])) rfl ⟨rfl, (by first | exact h9.1 | go_grown)⟩)
  · have e : Fx.levelVector X Y n = (0, 0, 0, false) := if_neg (fun k => hv k.1)
    unfold LevelV
    simp only [e]
    have V := Lib.hid hv
    clear e hv
    go_enter Try.func66, Try.ntmps66
    go_wp2_with (first | (go_at_call 98; (with_reducible refine (l14Vector_no _ _ _ V.out).mono ?_); rintro e w1 ⟨rfl, hb⟩; replace hx := Bx.below hx hb; clear hb; (try clear hf hd); (have hf := hx.2.2; simp only [List.forall_mem_cons, List.not_mem_nil, false_imp_iff, implies_true, and_true, Bx1] at hf; first | have hd := bx_apart4 hx | have hd := bx_apart3 hx | have hd := bx_apart2 hx | have hd := trivial)))
    (have h9 := hx.set0 (0) (0); (try simp only [Exit.inBlock, Exit.then]); exact bodyPost_ret (v := .tuple #[.agg #[.int .i64 0, .int .i64 0], .int .i64 0, .bool false]) (by first | (simp [results, Try.results66, go_sem]; done) | (have e9 := h9.get0; simp [results, Try.results66, go_sem, e9.1, e9.2])) rfl ⟨rfl, (by first | exact h9.1 | go_grown)⟩)

end Go.Proofs.Ytmjmafgjejphbaa
