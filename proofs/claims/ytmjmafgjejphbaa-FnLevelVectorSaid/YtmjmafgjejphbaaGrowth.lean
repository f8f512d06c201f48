/-
  The walks of the growth of rotations and of their starts.
-/
import Derived.Test.YtmjmafgjejphbaaArc
import Derived.Test.YtmjmafgjejphbaaSpanMul
import Derived.Test.YtmjmafgjejphbaaSpanDiv
import Derived.Test.YtmjmafgjejphbaaSpanSqrt
import Derived.Deep.DeepCutAuto
namespace Go.Proofs.Ytmjmafgjejphbaa
open Go.RowKit

theorem grow_step (n : Nat) (d : Int) (hd : d = if (268435456 : Nat) % 4 ^ n = 0 then 0 else 1) : Fx.growP (n + 1) =
    ((Fx.spanMul (Fx.growP n).1 (Fx.growP n).2 (268435456 + 268435456 / 4 ^ n) (268435456 + 268435456 / 4 ^ n + d)).1, (Fx.spanMul (Fx.growP n).1 (Fx.growP n).2 (268435456 + 268435456 / 4 ^ n) (268435456 + 268435456 / 4 ^ n + d)).2.1) := by
  subst hd; rfl
theorem four_pow (n : Nat) : (4 : Int) ^ n = 2 ^ (2 * n) := by
  have : (4 : Nat) ^ n = 2 ^ (2 * n) := by rw [Nat.pow_mul]
  exact_mod_cast this
theorem grow_facts (n : Nat) (h : n < 20) : (1 ≤ (4 : Int) ^ n ∧ (4 : Int) ^ n ≤ 274877906944) ∧ (0 ≤ (268435456 : Int) / 4 ^ n ∧ (268435456 : Int) / 4 ^ n ≤ 268435456) ∧ ((268435456 : Int) % 4 ^ n = 0 ↔ n ≤ 14) ∧ ((268435456 : Nat) % 4 ^ n = 0 ↔ n ≤ 14) := by
  have hd : (List.range 20).all (fun n => decide ((1 : Int) ≤ 4 ^ n) && (decide ((4 : Int) ^ n ≤ 274877906944) && (decide ((0 : Int) ≤ 268435456 / 4 ^ n) && (decide ((268435456 : Int) / 4 ^ n ≤ 268435456) && (decide ((268435456 : Int) % 4 ^ n = 0 ↔ n ≤ 14) && decide ((268435456 : Nat) % 4 ^ n = 0 ↔ n ≤ 14)))))) = true := by decide +kernel
  rw [List.all_eq_true] at hd
  have := hd n (List.mem_range.2 h)
  simp only [Bool.and_eq_true, decide_eq_true_eq] at this
  exact ⟨⟨this.1, this.2.1⟩, ⟨this.2.2.1, this.2.2.2.1⟩, this.2.2.2.2.1, this.2.2.2.2.2⟩

set_option maxHeartbeats 4000000 in
theorem growthSpan_any (n : Int) (w : World) :
    Calls Try.prog 48 #[.int .i64 n] w fun e w' => e = .returned (.agg #[.int .i64 (Fx.growthSpan n).1, .int .i64 (Fx.growthSpan n).2]) ∧ Below w.heap.size w w' := by
  have hx := bx_one w 0 0 31
  by_cases hk : 0 ≤ n ∧ n ≤ 20
  · have e : Fx.growthSpan n = Fx.growS n.toNat := if_pos hk
    rw [e]
    clear e
    (have hf := hx.2.2; simp only [List.forall_mem_cons, List.not_mem_nil, false_imp_iff, implies_true, and_true, Bx1] at hf; first | have hd := bx_apart4 hx | have hd := bx_apart3 hx | have hd := bx_apart2 hx | have hd := trivial)
    go_enter Try.func48, Try.ntmps48
    go_wp2_with (go_at_call 92; (with_reducible refine (alone_any _ _).mono ?_); rintro e w1 ⟨rfl, hb⟩; replace hx := (Bx.below hx hb).box (268435456) (268435456) 31; clear hb; (try clear hf hd); (have hf := hx.2.2; simp only [List.forall_mem_cons, List.not_mem_nil, false_imp_iff, implies_true, and_true, Bx1] at hf; first | have hd := bx_apart4 hx | have hd := bx_apart3 hx | have hd := bx_apart2 hx | have hd := trivial))
    go_loopw [4, 5, 6, 18] (fun _ _ _ v w' => ∃ m : Nat, m ≤ n.toNat ∧ v = .int .i64 m ∧ Bx w [(w1.heap.size, (Fx.growP m).1, (Fx.growP m).2), (w.heap.size, 0, 0)] w') (fun _ _ _ v _ => (n - intOf v).toNat)
    case atStart => exact ⟨0, by omega, rfl, hx⟩
    case round =>
      clear hx
      obtain ⟨m, hm, rfl, hx⟩ := hrel
      (try clear hf hd); (have hf := hx.2.2; simp only [List.forall_mem_cons, List.not_mem_nil, false_imp_iff, implies_true, and_true, Bx1] at hf; first | have hd := bx_apart4 hx | have hd := bx_apart3 hx | have hd := bx_apart2 hx | have hd := trivial)
      by_cases h4 : m < n.toNat
      · obtain ⟨⟨p1, p2⟩, ⟨q1, q2⟩, hi, hr⟩ := grow_facts m (by omega)
        have C1 : ∀ w, Calls Try.prog 85 #[.int .i64 268435456, .int .i64 (2 ^ (2 * m))] w fun e w' => e = .returned (.int .i64 (268435456 / 4 ^ m)) ∧ w = w' := by
          intro w; rw [← four_pow, ← Fx.floorDiv_in 268435456 (4 ^ m) (by unfold Fx.Work; omega) (by omega) (by omega)]; exact floorDiv_any _ _ _
        have hm2 : (2 * (m : Int)).toNat = 2 * m := by omega
        have hz : ((2 : Int) ^ (2 * m) == 0) = false := by
          have : (2 : Int) ^ (2 * m) ≠ 0 := by rw [← four_pow]; omega
          simpa using this
        have ht : (268435456 : Int) % 2 ^ (2 * m) = 268435456 % 4 ^ m := by rw [← four_pow]
        rw [four_pow m] at p1 p2
        by_cases h0 : m ≤ 14
        · have es := grow_step m 0 (by rw [if_pos (hr.2 h0)])
          rw [hi.2 h0] at ht
          rw [Int.add_zero] at es
          clear hi hr h0
          generalize (268435456 : Int) / 4 ^ m = q at *
          go_wp2_with (first | (go_at_call 85; refine (C1 _).mono ?_; rintro e w' ⟨rfl, rfl⟩) | (go_at_call 92; (with_reducible refine (alone_any _ _).mono ?_); rintro e w2 ⟨rfl, hb⟩; replace hx := (Bx.below hx hb).box (268435456 + q) (268435456 + q) 31; clear hb; (try clear hf hd); (have hf := hx.2.2; simp only [List.forall_mem_cons, List.not_mem_nil, false_imp_iff, implies_true, and_true, Bx1] at hf; first | have hd := bx_apart4 hx | have hd := bx_apart3 hx | have hd := bx_apart2 hx | have hd := trivial)) | (go_at_call 54; (with_reducible refine (spanMul_any _ _ _ _ _).mono ?_); rintro e w1 ⟨rfl, hb⟩; replace hx := Bx.below hx hb; clear hb; (try clear hf hd); (have hf := hx.2.2; simp only [List.forall_mem_cons, List.not_mem_nil, false_imp_iff, implies_true, and_true, Bx1] at hf; first | have hd := bx_apart4 hx | have hd := bx_apart3 hx | have hd := bx_apart2 hx | have hd := trivial)))
          go_roundw
          case rel =>
            refine ⟨m + 1, by omega, by go_num, ?_⟩
            rw [es]
            exact (hx.set1 _ _).tail
          case measure => simp [intOf]; omega
        · have es := grow_step m 1 (by rw [if_neg (fun h => h0 (hr.1 h))])
          have h1 : ((268435456 : Int) % 4 ^ m == 0) = false := by
            have := fun h => h0 (hi.1 h)
            simpa using this
          rw [← ht] at h1
          clear hi hr h0 ht
          generalize (268435456 : Int) / 4 ^ m = q at *
          go_wp2_with (first | (go_at_call 85; refine (C1 _).mono ?_; rintro e w' ⟨rfl, rfl⟩) | (go_at_call 92; (with_reducible refine (alone_any _ _).mono ?_); rintro e w2 ⟨rfl, hb⟩; replace hx := (Bx.below hx hb).box (268435456 + q) (268435456 + q + 1) 31; clear hb; (try clear hf hd); (have hf := hx.2.2; simp only [List.forall_mem_cons, List.not_mem_nil, false_imp_iff, implies_true, and_true, Bx1] at hf; first | have hd := bx_apart4 hx | have hd := bx_apart3 hx | have hd := bx_apart2 hx | have hd := trivial)) | (go_at_call 54; (with_reducible refine (spanMul_any _ _ _ _ _).mono ?_); rintro e w1 ⟨rfl, hb⟩; replace hx := Bx.below hx hb; clear hb; (try clear hf hd); (have hf := hx.2.2; simp only [List.forall_mem_cons, List.not_mem_nil, false_imp_iff, implies_true, and_true, Bx1] at hf; first | have hd := bx_apart4 hx | have hd := bx_apart3 hx | have hd := bx_apart2 hx | have hd := trivial)))
          go_roundw
          case rel =>
            refine ⟨m + 1, by omega, by go_num, ?_⟩
            rw [es]
            exact (hx.set1 _ _).tail
          case measure => simp [intOf]; omega
      · obtain rfl : m = n.toNat := by omega
        obtain ⟨X, Y, k, er⟩ : ∃ (X Y : Int) (k : Bool), Fx.spanSqrt (Fx.growP n.toNat).1 (Fx.growP n.toNat).2 = (X, Y, k) := ⟨_, _, _, rfl⟩
        have G := fun w => spanSqrt_any (Fx.growP n.toNat).1 (Fx.growP n.toNat).2 w
        rw [er] at G
        have E := Lib.hid (show (X, Y) = Fx.growS n.toNat by unfold Fx.growS; rw [er])
        clear er
        cases k
        all_goals
          go_wp2_with (go_at_call 93; (with_reducible refine (G _).mono ?_); rintro e w3 ⟨rfl, hb⟩; replace hx := (Bx.below hx hb).box (X) (Y) 31; clear hb; (try clear hf hd); (have hf := hx.2.2; simp only [List.forall_mem_cons, List.not_mem_nil, false_imp_iff, implies_true, and_true, Bx1] at hf; first | have hd := bx_apart4 hx | have hd := bx_apart3 hx | have hd := bx_apart2 hx | have hd := trivial))
          (have h9 := hx.set2 (X) (Y); (try simp only [Exit.inBlock, Exit.then]); exact bodyPost_ret (v := .agg #[.int .i64 X, .int .i64 Y]) (by first | (simp [results, Try.results48, go_sem]; done) | (have e9 := h9.get2; simp [results, Try.results48, go_sem, e9.1, e9.2])) rfl ⟨by rw [← E.out], (by first | exact h9.1 | go_grown)⟩)
  · have e : Fx.growthSpan n = (0, 0) := if_neg hk
    rw [e]
    have hc : n < 0 ∨ 0 ≤ n ∧ 20 < n := by omega
    clear e hk
    (have hf := hx.2.2; simp only [List.forall_mem_cons, List.not_mem_nil, false_imp_iff, implies_true, and_true, Bx1] at hf; first | have hd := bx_apart4 hx | have hd := bx_apart3 hx | have hd := bx_apart2 hx | have hd := trivial)
    rcases hc with hc | hc
    all_goals
      go_enter Try.func48, Try.ntmps48
      go_wp2
      (have h9 := hx.set0 (0) (0); (try simp only [Exit.inBlock, Exit.then]); exact bodyPost_ret (v := .agg #[.int .i64 0, .int .i64 0]) (by first | (simp [results, Try.results48, go_sem]; done) | (have e9 := h9.get0; simp [results, Try.results48, go_sem, e9.1, e9.2])) rfl ⟨rfl, (by first | exact h9.1 | go_grown)⟩)

set_option maxHeartbeats 4000000 in
theorem s_growthSpan_any (n : Int) (w : World) :
    Calls Try.prog 47 #[.int .i64 n] w fun e w' => e = .returned (.agg #[.int .i64 (Fx.growthSpan n).1, .int .i64 (Fx.growthSpan n).2]) ∧ Below w.heap.size w w' := by
  by_cases hk : 0 ≤ n ∧ n ≤ 20
  · have hx := bx_two w 0 0 268435456 268435456 31 31
    have e : Fx.growthSpan n = Fx.growS n.toNat := if_pos hk
    rw [e]
    clear e
    (have hf := hx.2.2; simp only [List.forall_mem_cons, List.not_mem_nil, false_imp_iff, implies_true, and_true, Bx1] at hf; first | have hd := bx_apart4 hx | have hd := bx_apart3 hx | have hd := bx_apart2 hx | have hd := trivial)
    go_enter Try.func47, Try.ntmps47
    go_wp2_with (go_at_call 78; refine (l1In_yes _ _ _ _ ?_).mono ?_; omega; rintro e w' ⟨rfl, rfl⟩)
    go_loopw [4, 5, 6] (fun v _ _ w' => ∃ m : Nat, m ≤ n.toNat ∧ v = .int .i64 m ∧ Bx w [(w.heap.size + 1, (Fx.growP m).1, (Fx.growP m).2), (w.heap.size, 0, 0)] w') (fun v _ _ _ => (n - intOf v).toNat)
    case atStart => exact ⟨0, by omega, rfl, hx⟩
    case round =>
      clear hx
      obtain ⟨m, hm, rfl, hx⟩ := hrel
      (try clear hf hd); (have hf := hx.2.2; simp only [List.forall_mem_cons, List.not_mem_nil, false_imp_iff, implies_true, and_true, Bx1] at hf; first | have hd := bx_apart4 hx | have hd := bx_apart3 hx | have hd := bx_apart2 hx | have hd := trivial)
      by_cases h4 : m < n.toNat
      · obtain ⟨⟨p1, p2⟩, ⟨q1, q2⟩, hi, hr⟩ := grow_facts m (by omega)
        have hm2 : (2 * (m : Int)).toNat = 2 * m := by omega
        have hq : (268435456 : Int) / 2 ^ (2 * m) = 268435456 / 4 ^ m := by rw [four_pow]
        by_cases h0 : m ≤ 14
        · have es := grow_step m 0 (by rw [if_pos (hr.2 h0)])
          rw [Int.add_zero] at es
          clear hi hr p1 p2
          generalize (268435456 : Int) / 4 ^ m = q at *
          have hx2 := Lib.hid (hx.box (268435456 + q) (268435456 + q) 31)
          go_wp2_with (go_at_call 90; (with_reducible refine (s_spanMul_any _ _ _ _ _).mono ?_); rintro e w1 ⟨rfl, hb⟩; replace hx := Bx.below (hx2.out) hb; clear hb; (try clear hf hd); (have hf := hx.2.2; simp only [List.forall_mem_cons, List.not_mem_nil, false_imp_iff, implies_true, and_true, Bx1] at hf; first | have hd := bx_apart4 hx | have hd := bx_apart3 hx | have hd := bx_apart2 hx | have hd := trivial))
          go_roundw
          case rel =>
            refine ⟨m + 1, by omega, by go_num, ?_⟩
            rw [es]
            exact (hx.set1 _ _).tail
          case measure => simp [intOf]; omega
        · have es := grow_step m 1 (by rw [if_neg (fun h => h0 (hr.1 h))])
          clear hi hr p1 p2
          generalize (268435456 : Int) / 4 ^ m = q at *
          have hx2 := Lib.hid (hx.box (268435456 + q) (268435456 + q + 1) 31)
          go_wp2_with (go_at_call 90; (with_reducible refine (s_spanMul_any _ _ _ _ _).mono ?_); rintro e w1 ⟨rfl, hb⟩; replace hx := Bx.below (hx2.out) hb; clear hb; (try clear hf hd); (have hf := hx.2.2; simp only [List.forall_mem_cons, List.not_mem_nil, false_imp_iff, implies_true, and_true, Bx1] at hf; first | have hd := bx_apart4 hx | have hd := bx_apart3 hx | have hd := bx_apart2 hx | have hd := trivial))
          go_roundw
          case rel =>
            refine ⟨m + 1, by omega, by go_num, ?_⟩
            rw [es]
            exact (hx.set1 _ _).tail
          case measure => simp [intOf]; omega
      · obtain rfl : m = n.toNat := by omega
        obtain ⟨X, Y, k, er⟩ : ∃ (X Y : Int) (k : Bool), Fx.spanSqrt (Fx.growP n.toNat).1 (Fx.growP n.toNat).2 = (X, Y, k) := ⟨_, _, _, rfl⟩
        have G := fun w => s_spanSqrt_any (Fx.growP n.toNat).1 (Fx.growP n.toNat).2 w
        rw [er] at G
        have E := Lib.hid (show (X, Y) = Fx.growS n.toNat by unfold Fx.growS; rw [er])
        clear er
        cases k
        all_goals
          go_upto_region 13 with (go_at_call 91; (with_reducible refine (G _).mono ?_); rintro e w1 ⟨rfl, hb⟩; replace hx := Bx.below hx hb; clear hb; (try clear hf hd); (have hf := hx.2.2; simp only [List.forall_mem_cons, List.not_mem_nil, false_imp_iff, implies_true, and_true, Bx1] at hf; first | have hd := bx_apart4 hx | have hd := bx_apart3 hx | have hd := bx_apart2 hx | have hd := trivial))
          replace hx := hx.set0 X Y
          clear hf hd
          generalize ((w1.setCell ⟨w.heap.size + 1, 0, none⟩ (.int .i64 X)).setCell ⟨w.heap.size + 1, 1, none⟩ (.int .i64 Y)) = W2 at *
          (have hf := hx.2.2; simp only [List.forall_mem_cons, List.not_mem_nil, false_imp_iff, implies_true, and_true, Bx1] at hf; first | have hd := bx_apart4 hx | have hd := bx_apart3 hx | have hd := bx_apart2 hx | have hd := trivial)
          go_wp2
          (have h9 := hx.set1 (X) (Y); (try simp only [Exit.inBlock, Exit.then]); exact bodyPost_ret (v := .agg #[.int .i64 X, .int .i64 Y]) (by first | (simp [results, Try.results47, go_sem]; done) | (have e9 := h9.get1; simp [results, Try.results47, go_sem, e9.1, e9.2])) rfl ⟨by rw [← E.out], (by first | exact h9.1 | go_grown)⟩)
  · have hx := bx_one w 0 0 31
    have e : Fx.growthSpan n = (0, 0) := if_neg hk
    rw [e]
    have hc : n < 0 ∨ 20 < n := by omega
    clear e hk
    (have hf := hx.2.2; simp only [List.forall_mem_cons, List.not_mem_nil, false_imp_iff, implies_true, and_true, Bx1] at hf; first | have hd := bx_apart4 hx | have hd := bx_apart3 hx | have hd := bx_apart2 hx | have hd := trivial)
    go_enter Try.func47, Try.ntmps47
    go_wp2_with (go_at_call 78; refine (l1In_no _ _ _ _ ?_).mono ?_; omega; rintro e w' ⟨rfl, rfl⟩)
    (have h9 := hx.set0 (0) (0); (try simp only [Exit.inBlock, Exit.then]); exact bodyPost_ret (v := .agg #[.int .i64 0, .int .i64 0]) (by first | (simp [results, Try.results47, go_sem]; done) | (have e9 := h9.get0; simp [results, Try.results47, go_sem, e9.1, e9.2])) rfl ⟨rfl, (by first | exact h9.1 | go_grown)⟩)

set_option maxHeartbeats 2000000 in
theorem startOf_any (n : Int) (w : World) :
    Calls Try.prog 52 #[.int .i64 n] w fun e w' => e = .returned (.int .i64 (Fx.startOf n)) ∧ Below w.heap.size w w' := by
  have hx := Bx.nil w
  by_cases hk : 0 ≤ n ∧ n ≤ 20
  · have e : Fx.startOf n = (Fx.spanDiv 268435456 268435456 (Fx.growthSpan n).1 (Fx.growthSpan n).2).1 := by
      unfold Fx.startOf Fx.startS Fx.growthSpan; rw [if_pos hk, if_pos hk]
    rw [e]
    clear e
    go_enter Try.func52, Try.ntmps52
    go_wp2_with (first | (go_at_call 92; (with_reducible refine (alone_any _ _).mono ?_); rintro e w1 ⟨rfl, hb⟩; replace hx := Bx.below hx hb; clear hb) | (go_at_call 48; (with_reducible refine (growthSpan_any _ _).mono ?_); rintro e w1 ⟨rfl, hb⟩; replace hx := Bx.below hx hb; clear hb) | (go_at_call 96; (with_reducible refine (spanDiv_any _ _ _ _ _).mono ?_); rintro e w3 ⟨rfl, hb⟩; replace hx := (Bx.below hx hb).box ((Fx.spanDiv 268435456 268435456 (Fx.growthSpan n).1 (Fx.growthSpan n).2).1) ((Fx.spanDiv 268435456 268435456 (Fx.growthSpan n).1 (Fx.growthSpan n).2).2.1) 31; clear hb; (try clear hf hd); (have hf := hx.2.2; simp only [List.forall_mem_cons, List.not_mem_nil, false_imp_iff, implies_true, and_true, Bx1] at hf; first | have hd := bx_apart4 hx | have hd := bx_apart3 hx | have hd := bx_apart2 hx | have hd := trivial)))
    go_ret
    exact ⟨rfl, hx.1⟩
  · have e : Fx.startOf n = -1 := if_neg hk
    rw [e]
    have hc : n < 0 ∨ 0 ≤ n ∧ 20 < n := by omega
    clear e hk
    rcases hc with hc | hc
    all_goals
      go_enter Try.func52, Try.ntmps52
      go_wp2
      go_ret
      exact ⟨rfl, hx.1⟩

set_option maxHeartbeats 2000000 in
theorem s_startOf_any (n : Int) (w : World) :
    Calls Try.prog 51 #[.int .i64 n] w fun e w' => e = .returned (.int .i64 (Fx.startOf n)) ∧ Below w.heap.size w w' := by
  have hx := Bx.nil w
  by_cases hk : 0 ≤ n ∧ n ≤ 20
  · have e : Fx.startOf n = (Fx.spanDiv 268435456 268435456 (Fx.growthSpan n).1 (Fx.growthSpan n).2).1 := by
      unfold Fx.startOf Fx.startS Fx.growthSpan; rw [if_pos hk, if_pos hk]
    rw [e]
    clear e
    go_enter Try.func51, Try.ntmps51
    go_wp2_with (first | (go_at_call 78; refine (l1In_yes _ _ _ _ ?_).mono ?_; omega; rintro e w' ⟨rfl, rfl⟩) | (go_at_call 47; (with_reducible refine (s_growthSpan_any _ _).mono ?_); rintro e w1 ⟨rfl, hb⟩; replace hx := Bx.below hx hb; clear hb) | (go_at_call 95; (with_reducible refine (s_spanDiv_any _ _ _ _ _).mono ?_); rintro e w3 ⟨rfl, hb⟩; replace hx := (Bx.below hx hb).box ((Fx.spanDiv 268435456 268435456 (Fx.growthSpan n).1 (Fx.growthSpan n).2).1) ((Fx.spanDiv 268435456 268435456 (Fx.growthSpan n).1 (Fx.growthSpan n).2).2.1) 31; clear hb; (try clear hf hd); (have hf := hx.2.2; simp only [List.forall_mem_cons, List.not_mem_nil, false_imp_iff, implies_true, and_true, Bx1] at hf; first | have hd := bx_apart4 hx | have hd := bx_apart3 hx | have hd := bx_apart2 hx | have hd := trivial)))
    go_ret
    exact ⟨rfl, hx.1⟩
  · have e : Fx.startOf n = -1 := if_neg hk
    rw [e]
    have hc : n < 0 ∨ 20 < n := by omega
    clear e hk
    go_enter Try.func51, Try.ntmps51
    go_wp2_with (first | (go_at_call 78; refine (l1In_no _ _ _ _ ?_).mono ?_; omega; rintro e w' ⟨rfl, rfl⟩))
    go_ret
    exact ⟨rfl, hx.1⟩

end Go.Proofs.Ytmjmafgjejphbaa
