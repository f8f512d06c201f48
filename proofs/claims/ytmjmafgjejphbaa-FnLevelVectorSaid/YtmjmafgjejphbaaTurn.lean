/-
  The walks of rotations.
-/
import Derived.Test.YtmjmafgjejphbaaVec
import Derived.Test.YtmjmafgjejphbaaRowInts
namespace Go.Proofs.Ytmjmafgjejphbaa
open Go.RowKit

/-! ### Plain facts -/
theorem turn_pack {X Y a : Int} (h : Fx.VecIn X Y) (ha : -67108864 ≤ a ∧ a ≤ 67108864) (k : Nat) (hk : k ≤ 19) : ∃ x y t x' y' t' : Int,
    Fx.turn X Y a k = (x, y, t) ∧ Fx.turn X Y a (k + 1) = (x', y', t') ∧ (-576460752303423488 ≤ x ∧ x ≤ 576460752303423488) ∧ (-576460752303423488 ≤ y ∧ y ≤ 576460752303423488) ∧ (-234881024 ≤ t ∧ t ≤ 234881024) ∧
    (0 ≤ t → vstep x y k true = (x', y') ∧ t' = t - Fx.stepA k) ∧ (¬ 0 ≤ t → vstep x y k false = (x', y') ∧ t' = t + Fx.stepA k) := by
  have s := Fx.turn_size h ha k (by omega)
  have p := Fx.pow_le_pow (k := 40 + k) (n := 59) (by omega)
  have e59 : (2 : Int) ^ 59 = 576460752303423488 := by decide
  refine ⟨(Fx.turn X Y a k).1, (Fx.turn X Y a k).2.1, (Fx.turn X Y a k).2.2, (Fx.turn X Y a (k + 1)).1, (Fx.turn X Y a (k + 1)).2.1, (Fx.turn X Y a (k + 1)).2.2, rfl, rfl, by omega, by omega, by omega, ?_, ?_⟩
  · intro h0
    rw [Fx.turn, if_pos h0]
    exact ⟨rfl, rfl⟩
  · intro h0
    rw [Fx.turn, if_neg h0]
    exact ⟨rfl, rfl⟩
theorem level_pack {X Y : Int} (h : Fx.VecIn X Y) (k : Nat) (hk : k ≤ 19) : ∃ x y t x' y' t' : Int,
    Fx.level X Y k = (x, y, t) ∧ Fx.level X Y (k + 1) = (x', y', t') ∧ (-576460752303423488 ≤ x ∧ x ≤ 576460752303423488) ∧ (-576460752303423488 ≤ y ∧ y ≤ 576460752303423488) ∧ (-167772160 ≤ t ∧ t ≤ 167772160) ∧
    (0 < y → vstep x y k false = (x', y') ∧ t' = t + Fx.stepA k) ∧ (¬ 0 < y → vstep x y k true = (x', y') ∧ t' = t - Fx.stepA k) := by
  have s := Fx.level_size h k (by omega)
  have p := Fx.pow_le_pow (k := 40 + k) (n := 59) (by omega)
  have e59 : (2 : Int) ^ 59 = 576460752303423488 := by decide
  refine ⟨(Fx.level X Y k).1, (Fx.level X Y k).2.1, (Fx.level X Y k).2.2, (Fx.level X Y (k + 1)).1, (Fx.level X Y (k + 1)).2.1, (Fx.level X Y (k + 1)).2.2, rfl, rfl, by omega, by omega, by omega, ?_, ?_⟩
  · intro h0
    rw [Fx.level, if_pos h0]
    exact ⟨rfl, rfl⟩
  · intro h0
    rw [Fx.level, if_neg h0]
    exact ⟨rfl, rfl⟩
theorem shr63_pos (t : Int) (h : 0 ≤ t ∧ t ≤ 9223372036854775807) : t / 9223372036854775808 = 0 := Int.ediv_eq_zero_of_lt h.1 (by omega)
theorem shr63_neg (t : Int) (h : -9223372036854775808 ≤ t ∧ t < 0) : t / 9223372036854775808 = -1 := by omega

/-! ### Boxes beside a row -/
structure Rb (w : World) (a : Option Addr) (n : Nat) (f : Nat → Int) (L : List (Nat × Int × Int)) (W : World) : Prop where
  bx : Bx w L W
  row : RowIs W a n f
  new : ∀ g, a = some ⟨g, 0, none⟩ → g ∉ L.map (·.1)
theorem Rb.below {w W w' : World} {a : Option Addr} {n : Nat} {f : Nat → Int} {L : List (Nat × Int × Int)} (h : Rb w a n f L W) (hb : Below W.heap.size W w') : Rb w a n f L w' := ⟨h.bx.below hb, h.row.below hb, h.new⟩
theorem RowIs.set {W : World} {a : Option Addr} {n : Nat} {f : Nat → Int} (h : RowIs W a n f) {b : Nat} (hb : a ≠ some ⟨b, 0, none⟩) (o : Nat) (v : Value) : RowIs (W.setCell ⟨b, o, none⟩ v) a n f := by
  intro i hi
  obtain ⟨g, e1, e2, e3⟩ := h i hi
  refine ⟨g, e1, by simpa using e2, ?_⟩
  rw [World.cell?_setCell_other _ _ _ _ (by
    intro e
    injection e with e4
    exact hb (by rw [e1, e4]))]
  exact e3
theorem Rb.set1 {w W : World} {a : Option Addr} {n : Nat} {f : Nat → Int} {L : List (Nat × Int × Int)} {p : Nat × Int × Int} {c : Nat} {u v : Int} (h : Rb w a n f (p :: (c, u, v) :: L) W) (x y : Int) :
    Rb w a n f (p :: (c, x, y) :: L) ((W.setCell ⟨c, 0, none⟩ (.int .i64 x)).setCell ⟨c, 1, none⟩ (.int .i64 y)) := by
  have hn : a ≠ some ⟨c, 0, none⟩ := fun e => h.new c e (by simp)
  exact ⟨h.bx.set1 x y, (h.row.set hn 0 _).set hn 1 _, h.new⟩

abbrev TurnV (X Y a n : Int) : Value := .tuple #[.agg #[.int .i64 (Fx.turnVector X Y a n).1, .int .i64 (Fx.turnVector X Y a n).2.1], .int .i64 (Fx.turnVector X Y a n).2.2.1, .bool (Fx.turnVector X Y a n).2.2.2]
abbrev LevelV (X Y n : Int) : Value := .tuple #[.agg #[.int .i64 (Fx.levelVector X Y n).1, .int .i64 (Fx.levelVector X Y n).2.1], .int .i64 (Fx.levelVector X Y n).2.2.1, .bool (Fx.levelVector X Y n).2.2.2]

set_option maxHeartbeats 4000000 in
theorem turnVector_any (X Y a n : Int) (w : World) :
    Calls Try.prog 64 #[.agg #[.int .i64 X, .int .i64 Y], .int .i64 a, .int .i64 n] w fun e w' => e = .returned (TurnV X Y a n) ∧ Below w.heap.size w w' := by
  have hx := bx_two w X Y 0 0 46 46
  (have hf := hx.2.2; simp only [List.forall_mem_cons, List.not_mem_nil, false_imp_iff, implies_true, and_true, Bx1] at hf; first | have hd := bx_apart4 hx | have hd := bx_apart3 hx | have hd := bx_apart2 hx | have hd := trivial)
  by_cases hv : Fx.VecIn X Y
  · have V := Lib.hid hv
    by_cases ha : -67108864 ≤ a ∧ a ≤ 67108864
    · by_cases hn : 0 ≤ n ∧ n ≤ 20
      · have e : Fx.turnVector X Y a n = ((Fx.turn X Y a n.toNat).1, (Fx.turn X Y a n.toNat).2.1, (Fx.turn X Y a n.toNat).2.2, true) := if_pos ⟨hv, ha, hn⟩
        unfold TurnV
        simp only [e]
        obtain ⟨N, rfl⟩ : ∃ N : Nat, n = N := ⟨n.toNat, by omega⟩
        rw [show ((N : Int)).toNat = N by omega]
        have SA := fun w => stepAngles_any N w
        rw [show stepN N = N by unfold stepN; rw [if_pos (by omega)]; omega] at SA
        clear e
        go_enter Try.func64, Try.ntmps64
        go_wp2_with (first | (go_at_call 100; (with_reducible refine (vwithin_yes _ _ _ V.out).mono ?_); rintro e w1 ⟨rfl, hb⟩; replace hx := Bx.below hx hb; clear hb; (try clear hf hd); (have hf := hx.2.2; simp only [List.forall_mem_cons, List.not_mem_nil, false_imp_iff, implies_true, and_true, Bx1] at hf; first | have hd := bx_apart4 hx | have hd := bx_apart3 hx | have hd := bx_apart2 hx | have hd := trivial)) | (go_at_call 88; (with_reducible refine (within_yes _ _ _ (by omega)).mono ?_); rintro e w' ⟨rfl, rfl⟩))
        refine (SA _).mono ?_
        rintro e w2 ⟨v2, rfl, o2, b2⟩
        obtain ⟨g1, cap, rfl, l1, r1⟩ := owns_is o2 (fun i hi => stepL_at N i hi)
        have hR : Rb w g1 N Fx.stepA [(w.heap.size + 1, 0, 0), (w.heap.size, X, Y)] w2 := ⟨hx.below b2, r1, by
          intro g hg
          subst hg
          have h1 := (o2.lt g rfl).1
          have h2 := hf.1.1
          have h3 := hf.2.1
          simp; omega⟩
        clear hf hd hx b2 r1 o2 SA
        go_wp2_with fail
        go_loopw [1, 32] (fun t i w' => ∃ k : Nat, k ≤ N ∧ i = .int .i64 k ∧ t = .int .i64 (Fx.turn X Y a k).2.2 ∧ Rb w g1 N Fx.stepA [(w.heap.size + 1, 0, 0), (w.heap.size, (Fx.turn X Y a k).1, (Fx.turn X Y a k).2.1)] w') (fun _ i _ => (N - intOf i).toNat)
        case atStart => exact ⟨0, by omega, rfl, rfl, hR⟩
        case round =>
          clear hR
          obtain ⟨k, hk, rfl, rfl, hR⟩ := hrel
          by_cases h4 : k < N
          · obtain ⟨x, y, t, x', y', t', e1, e2, bx, by', bt, h5, h6⟩ := turn_pack hv ha k (by omega)
            rw [e1] at hR
            simp only [e1]
            obtain ⟨g, rfl, -, c1⟩ := hR.row k h4
            have sA := Fx.step_size k (by omega)
            have hx := hR.bx
            (have hf := hx.2.2; simp only [List.forall_mem_cons, List.not_mem_nil, false_imp_iff, implies_true, and_true, Bx1] at hf; first | have hd := bx_apart4 hx | have hd := bx_apart3 hx | have hd := bx_apart2 hx | have hd := trivial)
            by_cases h0 : 0 ≤ t
            · obtain ⟨h7, h8⟩ := h5 h0
              have V1 := fun w => vstep_any x y k true w bx by' (by omega)
              rw [h7] at V1
              rw [show signOf true = 0 from rfl] at V1
              have G1 := fun w => signed_pos (Fx.stepA k) w (by omega)
              have hs := shr63_pos t (by omega)
              clear h5 h6 h7 V
              go_wp2_with (first | (go_at_call 101; (with_reducible refine (V1 _).mono ?_); rintro e w3 ⟨rfl, b3⟩; replace hR := hR.below b3; clear b3 hf hd hx; have hx := hR.bx; (have hf := hx.2.2; simp only [List.forall_mem_cons, List.not_mem_nil, false_imp_iff, implies_true, and_true, Bx1] at hf; first | have hd := bx_apart4 hx | have hd := bx_apart3 hx | have hd := bx_apart2 hx | have hd := trivial)) | (go_at_call 102; (with_reducible refine (G1 _).mono ?_); rintro e w' ⟨rfl, rfl⟩))
              go_roundw
              case rel => exact ⟨k + 1, by omega, by go_num, by rw [e2]; simp; omega, by rw [e2]; exact hR.set1 _ _⟩
              case measure => simp [intOf]; omega
            · obtain ⟨h7, h8⟩ := h6 h0
              have V1 := fun w => vstep_any x y k false w bx by' (by omega)
              rw [h7] at V1
              rw [show signOf false = -1 from rfl] at V1
              have G1 := fun w => signed_neg (Fx.stepA k) w (by omega)
              have hs := shr63_neg t (by omega)
              clear h5 h6 h7 V
              go_wp2_with (first | (go_at_call 101; (with_reducible refine (V1 _).mono ?_); rintro e w3 ⟨rfl, b3⟩; replace hR := hR.below b3; clear b3 hf hd hx; have hx := hR.bx; (have hf := hx.2.2; simp only [List.forall_mem_cons, List.not_mem_nil, false_imp_iff, implies_true, and_true, Bx1] at hf; first | have hd := bx_apart4 hx | have hd := bx_apart3 hx | have hd := bx_apart2 hx | have hd := trivial)) | (go_at_call 102; (with_reducible refine (G1 _).mono ?_); rintro e w' ⟨rfl, rfl⟩))
              go_roundw
              case rel => exact ⟨k + 1, by omega, by go_num, by rw [e2]; simp; omega, by rw [e2]; exact hR.set1 _ _⟩
              case measure => simp [intOf]; omega
          · obtain rfl : k = N := by omega
            obtain ⟨x, y, t, hz⟩ : ∃ x y t, Fx.turn X Y a k = (x, y, t) := ⟨_, _, _, rfl⟩
            rw [hz] at hR
            simp only [hz]
            have hx := hR.bx
            clear V
            (have hf := hx.2.2; simp only [List.forall_mem_cons, List.not_mem_nil, false_imp_iff, implies_true, and_true, Bx1] at hf; first | have hd := bx_apart4 hx | have hd := bx_apart3 hx | have hd := bx_apart2 hx | have hd := trivial)
            go_wp2
            (have h9 := hx.set0 (x) (y); (try simp only [Exit.inBlock, Exit.then]); exact bodyPost_ret (v := .tuple #[.agg #[.int .i64 x, .int .i64 y], .int .i64 t, .bool true]) (by first | (simp [results, Try.results64, go_sem]; done) | (have e9 := h9.get0; simp [results, Try.results64, go_sem, e9.1, e9.2])) rfl ⟨rfl, (by first | exact h9.1 | go_grown)⟩)
      · have e : Fx.turnVector X Y a n = (0, 0, 0, false) := if_neg (fun k => hn k.2.2)
        unfold TurnV
        simp only [e]
        have hc : n < 0 ∨ 0 ≤ n ∧ 20 < n := by omega
        clear e hn
        rcases hc with hc | hc
        all_goals
          go_enter Try.func64, Try.ntmps64
          go_wp2_with (first | (go_at_call 100; (with_reducible refine (vwithin_yes _ _ _ V.out).mono ?_); rintro e w1 ⟨rfl, hb⟩; replace hx := Bx.below hx hb; clear hb; (try clear hf hd); (have hf := hx.2.2; simp only [List.forall_mem_cons, List.not_mem_nil, false_imp_iff, implies_true, and_true, Bx1] at hf; first | have hd := bx_apart4 hx | have hd := bx_apart3 hx | have hd := bx_apart2 hx | have hd := trivial)) | (go_at_call 88; (with_reducible refine (within_yes _ _ _ (by omega)).mono ?_); rintro e w' ⟨rfl, rfl⟩))
          (have h9 := hx.set0 (0) (0); (try simp only [Exit.inBlock, Exit.then]); exact bodyPost_ret (v := .tuple #[.agg #[.int .i64 0, .int .i64 0], .int .i64 0, .bool false]) (by first | (simp [results, Try.results64, go_sem]; done) | (have e9 := h9.get0; simp [results, Try.results64, go_sem, e9.1, e9.2])) rfl ⟨rfl, (by first | exact h9.1 | go_grown)⟩)
    · have e : Fx.turnVector X Y a n = (0, 0, 0, false) := if_neg (fun k => ha k.2.1)
      unfold TurnV
      simp only [e]
      have hc : a < -67108864 ∨ 67108864 < a := by omega
      clear e ha
      go_enter Try.func64, Try.ntmps64
      go_wp2_with (first | (go_at_call 100; (with_reducible refine (vwithin_yes _ _ _ V.out).mono ?_); rintro e w1 ⟨rfl, hb⟩; replace hx := Bx.below hx hb; clear hb; (try clear hf hd); (have hf := hx.2.2; simp only [List.forall_mem_cons, List.not_mem_nil, false_imp_iff, implies_true, and_true, Bx1] at hf; first | have hd := bx_apart4 hx | have hd := bx_apart3 hx | have hd := bx_apart2 hx | have hd := trivial)) | (go_at_call 88; (with_reducible refine (within_no _ _ _ (by omega)).mono ?_); rintro e w' ⟨rfl, rfl⟩))
      (have h9 := hx.set0 (0) (0); (try simp only [Exit.inBlock, Exit.then]); exact bodyPost_ret (v := .tuple #[.agg #[.int .i64 0, .int .i64 0], .int .i64 0, .bool false]) (by first | (simp [results, Try.results64, go_sem]; done) | (have e9 := h9.get0; simp [results, Try.results64, go_sem, e9.1, e9.2])) rfl ⟨rfl, (by first | exact h9.1 | go_grown)⟩)
  · have e : Fx.turnVector X Y a n = (0, 0, 0, false) := if_neg (fun k => hv k.1)
    unfold TurnV
    simp only [e]
    have V := Lib.hid hv
    clear e hv
    go_enter Try.func64, Try.ntmps64
    go_wp2_with (first | (go_at_call 100; (with_reducible refine (vwithin_no _ _ _ V.out).mono ?_); rintro e w1 ⟨rfl, hb⟩; replace hx := Bx.below hx hb; clear hb; (try clear hf hd); (have hf := hx.2.2; simp only [List.forall_mem_cons, List.not_mem_nil, false_imp_iff, implies_true, and_true, Bx1] at hf; first | have hd := bx_apart4 hx | have hd := bx_apart3 hx | have hd := bx_apart2 hx | have hd := trivial)))
    (have h9 := hx.set0 (0) (0); (try simp only [Exit.inBlock, Exit.then]); exact bodyPost_ret (v := .tuple #[.agg #[.int .i64 0, .int .i64 0], .int .i64 0, .bool false]) (by first | (simp [results, Try.results64, go_sem]; done) | (have e9 := h9.get0; simp [results, Try.results64, go_sem, e9.1, e9.2])) rfl ⟨rfl, (by first | exact h9.1 | go_grown)⟩)

set_option maxHeartbeats 4000000 in
theorem s_turnVector_any (X Y a n : Int) (w : World) :
    Calls Try.prog 62 #[.agg #[.int .i64 X, .int .i64 Y], .int .i64 a, .int .i64 n] w fun e w' => e = .returned (TurnV X Y a n) ∧ Below w.heap.size w w' := by
  have hx := bx_two w X Y 0 0 46 46
  (have hf := hx.2.2; simp only [List.forall_mem_cons, List.not_mem_nil, false_imp_iff, implies_true, and_true, Bx1] at hf; first | have hd := bx_apart4 hx | have hd := bx_apart3 hx | have hd := bx_apart2 hx | have hd := trivial)
  by_cases hv : Fx.VecIn X Y
  · have V := Lib.hid hv
    by_cases ha : -67108864 ≤ a ∧ a ≤ 67108864
    · by_cases hn : 0 ≤ n ∧ n ≤ 20
      · have e : Fx.turnVector X Y a n = ((Fx.turn X Y a n.toNat).1, (Fx.turn X Y a n.toNat).2.1, (Fx.turn X Y a n.toNat).2.2, true) := if_pos ⟨hv, ha, hn⟩
        unfold TurnV
        simp only [e]
        obtain ⟨N, rfl⟩ : ∃ N : Nat, n = N := ⟨n.toNat, by omega⟩
        rw [show ((N : Int)).toNat = N by omega]
        clear e
        go_enter Try.func62, Try.ntmps62
        go_wp2_with (first | (go_at_call 98; (with_reducible refine (l14Vector_yes _ _ _ V.out).mono ?_); rintro e w1 ⟨rfl, hb⟩; replace hx := Bx.below hx hb; clear hb; (try clear hf hd); (have hf := hx.2.2; simp only [List.forall_mem_cons, List.not_mem_nil, false_imp_iff, implies_true, and_true, Bx1] at hf; first | have hd := bx_apart4 hx | have hd := bx_apart3 hx | have hd := bx_apart2 hx | have hd := trivial)) | (go_at_call 78; (with_reducible refine (l1In_yes _ _ _ _ (by omega)).mono ?_); rintro e w' ⟨rfl, rfl⟩))
        go_loopw [1, 9] (fun t i w' => ∃ k : Nat, k ≤ N ∧ i = .int .i64 k ∧ t = .int .i64 (Fx.turn X Y a k).2.2 ∧ Bx w [(w.heap.size + 1, 0, 0), (w.heap.size, (Fx.turn X Y a k).1, (Fx.turn X Y a k).2.1)] w') (fun _ i _ => (N - intOf i).toNat)
        case atStart => exact ⟨0, by omega, rfl, rfl, hx⟩
        case round =>
          clear hx hf hd
          obtain ⟨k, hk, rfl, rfl, hx⟩ := hrel
          by_cases h4 : k < N
          · obtain ⟨x, y, t, x', y', t', e1, e2, bx, by', bt, h5, h6⟩ := turn_pack hv ha k (by omega)
            rw [e1] at hx
            simp only [e1]
            have sA := Fx.step_size k (by omega)
            have ST := fun w => s_stepAngle_nat k (by omega) w
            (have hf := hx.2.2; simp only [List.forall_mem_cons, List.not_mem_nil, false_imp_iff, implies_true, and_true, Bx1] at hf; first | have hd := bx_apart4 hx | have hd := bx_apart3 hx | have hd := bx_apart2 hx | have hd := trivial)
            by_cases h0 : 0 ≤ t
            · obtain ⟨h7, h8⟩ := h5 h0
              have V1 := fun w => l14Step_any x y k true w bx by' (by omega)
              rw [h7] at V1
              clear h5 h6 h7 V
              go_wp2_with (first | (go_at_call 99; (with_reducible refine (V1 _).mono ?_); rintro e w1 ⟨rfl, hb⟩; replace hx := Bx.below hx hb; clear hb; (try clear hf hd); (have hf := hx.2.2; simp only [List.forall_mem_cons, List.not_mem_nil, false_imp_iff, implies_true, and_true, Bx1] at hf; first | have hd := bx_apart4 hx | have hd := bx_apart3 hx | have hd := bx_apart2 hx | have hd := trivial)) | (go_at_call 49; (with_reducible refine (ST _).mono ?_); rintro e w1 ⟨rfl, hb⟩; replace hx := Bx.below (hx.set1 x' y') hb; clear hb; (try clear hf hd); (have hf := hx.2.2; simp only [List.forall_mem_cons, List.not_mem_nil, false_imp_iff, implies_true, and_true, Bx1] at hf; first | have hd := bx_apart4 hx | have hd := bx_apart3 hx | have hd := bx_apart2 hx | have hd := trivial)))
              go_roundw
              case rel => exact ⟨k + 1, by omega, by go_num, by rw [e2]; simp; omega, by rw [e2]; exact hx⟩
              case measure => simp [intOf]; omega
            · obtain ⟨h7, h8⟩ := h6 h0
              have V1 := fun w => l14Step_any x y k false w bx by' (by omega)
              rw [h7] at V1
              clear h5 h6 h7 V
              go_wp2_with (first | (go_at_call 99; (with_reducible refine (V1 _).mono ?_); rintro e w1 ⟨rfl, hb⟩; replace hx := Bx.below hx hb; clear hb; (try clear hf hd); (have hf := hx.2.2; simp only [List.forall_mem_cons, List.not_mem_nil, false_imp_iff, implies_true, and_true, Bx1] at hf; first | have hd := bx_apart4 hx | have hd := bx_apart3 hx | have hd := bx_apart2 hx | have hd := trivial)) | (go_at_call 49; (with_reducible refine (ST _).mono ?_); rintro e w1 ⟨rfl, hb⟩; replace hx := Bx.below (hx.set1 x' y') hb; clear hb; (try clear hf hd); (have hf := hx.2.2; simp only [List.forall_mem_cons, List.not_mem_nil, false_imp_iff, implies_true, and_true, Bx1] at hf; first | have hd := bx_apart4 hx | have hd := bx_apart3 hx | have hd := bx_apart2 hx | have hd := trivial)))
              go_roundw
              case rel => exact ⟨k + 1, by omega, by go_num, by rw [e2]; simp; omega, by rw [e2]; exact hx⟩
              case measure => simp [intOf]; omega
          · obtain rfl : k = N := by omega
            obtain ⟨x, y, t, hz⟩ : ∃ x y t, Fx.turn X Y a k = (x, y, t) := ⟨_, _, _, rfl⟩
            rw [hz] at hx
            simp only [hz]
            clear V
            (have hf := hx.2.2; simp only [List.forall_mem_cons, List.not_mem_nil, false_imp_iff, implies_true, and_true, Bx1] at hf; first | have hd := bx_apart4 hx | have hd := bx_apart3 hx | have hd := bx_apart2 hx | have hd := trivial)
            go_wp2
            (have h9 := hx.set0 (x) (y); (try simp only [Exit.inBlock, Exit.then]); exact bodyPost_ret (v := .tuple #[.agg #[.int .i64 x, .int .i64 y], .int .i64 t, .bool true]) (by first | (simp [results, Try.results62, go_sem]; done) | (have e9 := h9.get0; simp [results, Try.results62, go_sem, e9.1, e9.2])) rfl ⟨rfl, (by first | exact h9.1 | go_grown)⟩)
      · have e : Fx.turnVector X Y a n = (0, 0, 0, false) := if_neg (fun k => hn k.2.2)
        unfold TurnV
        simp only [e]
        have hc : n < 0 ∨ 20 < n := by omega
        clear e hn
        go_enter Try.func62, Try.ntmps62
        go_wp2_with (first | (go_at_call 98; (with_reducible refine (l14Vector_yes _ _ _ V.out).mono ?_); rintro e w1 ⟨rfl, hb⟩; replace hx := Bx.below hx hb; clear hb; (try clear hf hd); (have hf := hx.2.2; simp only [List.forall_mem_cons, List.not_mem_nil, false_imp_iff, implies_true, and_true, Bx1] at hf; first | have hd := bx_apart4 hx | have hd := bx_apart3 hx | have hd := bx_apart2 hx | have hd := trivial)) | (go_at_call 78; (with_reducible refine (l1In_yes _ _ _ _ (by omega)).mono ?_); rintro e w' ⟨rfl, rfl⟩) | (go_at_call 78; (with_reducible refine (l1In_no _ _ _ _ (by omega)).mono ?_); rintro e w' ⟨rfl, rfl⟩))
        (have h9 := hx.set0 (0) (0); (try simp only [Exit.inBlock, Exit.then]); exact bodyPost_ret (v := .tuple #[.agg #[.int .i64 0, .int .i64 0], .int .i64 0, .bool false]) (by first | (simp [results, Try.results62, go_sem]; done) | (have e9 := h9.get0; simp [results, Try.results62, go_sem, e9.1, e9.2])) rfl ⟨rfl, (by first | exact h9.1 | go_grown)⟩)
    · have e : Fx.turnVector X Y a n = (0, 0, 0, false) := if_neg (fun k => ha k.2.1)
      unfold TurnV
      simp only [e]
      have hc : a < -67108864 ∨ 67108864 < a := by omega
      clear e ha
      go_enter Try.func62, Try.ntmps62
      go_wp2_with (first | (go_at_call 98; (with_reducible refine (l14Vector_yes _ _ _ V.out).mono ?_); rintro e w1 ⟨rfl, hb⟩; replace hx := Bx.below hx hb; clear hb; (try clear hf hd); (have hf := hx.2.2; simp only [List.forall_mem_cons, List.not_mem_nil, false_imp_iff, implies_true, and_true, Bx1] at hf; first | have hd := bx_apart4 hx | have hd := bx_apart3 hx | have hd := bx_apart2 hx | have hd := trivial)) | (go_at_call 78; (with_reducible refine (l1In_no _ _ _ _ (by omega)).mono ?_); rintro e w' ⟨rfl, rfl⟩))
      (have h9 := hx.set0 (0) (0); (try simp only [Exit.inBlock, Exit.then]); exact bodyPost_ret (v := .tuple #[.agg #[.int .i64 0, .int .i64 0], .int .i64 0, .bool false]) (by first | (simp [results, Try.results62, go_sem]; done) | (have e9 := h9.get0; simp [results, Try.results62, go_sem, e9.1, e9.2])) rfl ⟨rfl, (by first | exact h9.1 | go_grown)⟩)
  · have e : Fx.turnVector X Y a n = (0, 0, 0, false) := if_neg (fun k => hv k.1)
    unfold TurnV
    simp only [e]
    have V := Lib.hid hv
    clear e hv
    go_enter Try.func62, Try.ntmps62
    go_wp2_with (first | (go_at_call 98; (with_reducible refine (l14Vector_no _ _ _ V.out).mono ?_); rintro e w1 ⟨rfl, hb⟩; replace hx := Bx.below hx hb; clear hb; (try clear hf hd); (have hf := hx.2.2; simp only [List.forall_mem_cons, List.not_mem_nil, false_imp_iff, implies_true, and_true, Bx1] at hf; first | have hd := bx_apart4 hx | have hd := bx_apart3 hx | have hd := bx_apart2 hx | have hd := trivial)))
    (have h9 := hx.set0 (0) (0); (try simp only [Exit.inBlock, Exit.then]); exact bodyPost_ret (v := .tuple #[.agg #[.int .i64 0, .int .i64 0], .int .i64 0, .bool false]) (by first | (simp [results, Try.results62, go_sem]; done) | (have e9 := h9.get0; simp [results, Try.results62, go_sem, e9.1, e9.2])) rfl ⟨rfl, (by first | exact h9.1 | go_grown)⟩)

end Go.Proofs.Ytmjmafgjejphbaa
