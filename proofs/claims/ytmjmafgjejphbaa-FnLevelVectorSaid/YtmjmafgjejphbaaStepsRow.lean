/-
  The walks of the tables of angles.
-/
import Derived.Test.YtmjmafgjejphbaaSteps
import Derived.Deep.RegionWith
import Derived.Handy
namespace Go.Proofs.Ytmjmafgjejphbaa
open Go.RowKit

/-- How many angles the table has. -/
def stepN (n : Int) : Nat := if 0 ≤ n ∧ n ≤ 21 then n.toNat else 0
theorem Tab.alloc {w W : World} {b n m : Nat} {L : List (Nat × Int × Int)} (h : Tab w b n m L W) (o : Obj) : Tab w b n m L (W.alloc o) := ⟨h.row.alloc o, h.bx.alloc o, h.new⟩
/-- A table of m angles is returned. -/
def GivesRow (w : World) (m : Nat) (e : Ending) (w' : World) : Prop := ∃ v, e = .returned v ∧ w'.ownsRow w.heap.size 3 1 v m (stepL m) ∧ Below w.heap.size w w'
theorem stepL_succ (m : Nat) : stepL (m + 1) = stepL m ++ [.int .i64 (Fx.stepA m)] := by
  unfold stepL; rw [List.range_succ, List.map_append]; rfl
theorem stepL_at (n i : Nat) (h : i < n) : (stepL n)[i]? = some (.int .i64 (Fx.stepA i)) := by
  unfold stepL; simp [h]

theorem int_info : ∃ i, Try.prog.info? 3 = some i ∧ i.zero = some (.int .i64 0) ∧ i.size = 1 ∧ i.bytes = 8 := info_parts (show (Try.prog.info? 3).map (fun i => (i.zero, i.size, i.bytes)) = some (some (.int .i64 0), 1, 8) from by kernel_rfl)

set_option maxHeartbeats 8000000 in
theorem stepAngles_any (n : Int) (w : World) : Calls Try.prog 56 #[.int .i64 n] w (GivesRow w (stepN n)) := by
  by_cases hn : 0 ≤ n ∧ n ≤ 21
  · have e : stepN n = n.toNat := if_pos hn
    rw [e]
    clear e
    obtain ⟨N, rfl⟩ : ∃ N : Nat, n = N := ⟨n.toNat, by omega⟩
    rw [show ((N : Int)).toNat = N by omega]
    obtain ⟨i0, hi, hz0, hz1, hz2⟩ := int_info
    have PI := fun w => piSpan_any w
    rw [Fx.pi_is] at PI
    go_enter Try.func56, Try.ntmps56
    go_wp2_with (first
      | (at_make; refine wpList_make_full _ rfl _ _ 40 rfl w.heap.size 3 i0 (.int .i64 0) 1 Try.underlying40 hi hz0 hz1 _ _ _ _ N rfl rfl (by omega) (by omega) (by rw [hz2]; omega) (by unfold maxLen; omega) (Nat.le_refl _) ?_; intro w0 hown hgrow)
      | (go_at_call 34; refine (PI _).mono ?_; rintro e w1 ⟨rfl, hb⟩))
    have hb0 : Below w.heap.size w w0 := (Below.refl w.heap.size w).grown hgrow (Nat.le_refl _) (by intro k hk; cases hk)
    have hl0 : (madeCells (Value.int .i64 0).cells (N * 1)).toList = rowL N 0 := by
      rw [Nat.mul_one, rowL_zero]; exact toList_madeCells_one _ _
    rw [hl0] at hown
    have hT : Tab w w.heap.size N 0 [] w0 := ⟨hown, ⟨hb0, by simp, by simp⟩, by simp⟩
    clear hown hgrow hb0 hl0
    replace hT := (hT.below hb).box 843314816 843314944 31
    clear hb PI
    go_loopw [5, 6, 7, 19, 31, 37] (fun _ _ _ v _ _ w' => ∃ m : Nat, m ≤ N ∧ v = .int .i64 m ∧ Tab w w.heap.size N m [(w1.heap.size, 843314816, 843314944)] w') (fun _ _ _ v _ _ _ => (N - intOf v).toNat)
    case atStart => exact ⟨0, by omega, rfl, hT⟩
    case round =>
      clear hT
      obtain ⟨m, hm, rfl, hT⟩ := hrel
      by_cases h4 : m < N
      · ((try clear hf hd hr hlt hnw); have hnw := hT.apart; simp only [List.forall_mem_cons, List.not_mem_nil, false_imp_iff, implies_true, and_true] at hnw; have hf := hT.bx.2.2; simp only [List.forall_mem_cons, List.not_mem_nil, false_imp_iff, implies_true, and_true, Bx1] at hf; (first | have hd := bx_apart4 hT.bx | have hd := bx_apart3 hT.bx | have hd := bx_apart2 hT.bx | have hd := trivial); have hr := Tab.now hT (by omega); have hlt := hT.lt)
        cases m with
        | zero =>
          go_wp2
          go_roundw
          case rel => exact ⟨1, by omega, by go_num, hT.put⟩
          case measure => simp [intOf]; omega
        | succ j =>
          have hz : ((j : Int) + 1 == 0) = false := by
            have : (j : Int) + 1 ≠ 0 := by omega
            simpa using this
          have hj : ((j : Int) + 1).toNat = j + 1 := by omega
          by_cases h16 : j < 16
          · obtain ⟨a, b, lo, hi2, r, e1, e2, hlo, hhi, e3, hr3, e4⟩ := part_is j h16
            have A := fun w => arcSpan_any (2 ^ (j + 1)) w
            have D := fun w => spanDiv_any a b 843314816 843314944 w
            rw [e1] at A
            rw [e2] at D
            have R1 : ∀ w, Calls Try.prog 97 #[.int .i64 (lo + hi2), .int .i64 2] w fun e w' => e = .returned (.int .i64 r) ∧ w = w' := by
              intro w; rw [← e3, ← Fx.roundDiv_in (lo + hi2) 2 (by unfold Fx.Work; omega) (by omega) (by omega)]; exact roundDiv_any _ _ _
            have R2 : ∀ w, Calls Try.prog 97 #[.int .i64 r, .int .i64 8] w fun e w' => e = .returned (.int .i64 (Fx.stepA (j + 1))) ∧ w = w' := by
              intro w; rw [← e4, ← Fx.roundDiv_in r 8 (by unfold Fx.Work; omega) (by omega) (by omega)]; exact roundDiv_any _ _ _
            have hp : (2 : Int) ^ (j + 1) ≤ 65536 ∧ 1 ≤ (2 : Int) ^ (j + 1) := ⟨Fx.pow_le_pow (k := j + 1) (n := 16) (by omega), Fx.one_le_pow _⟩
            have hw := IntWalk.i64_in ((2 : Int) ^ (j + 1)) (by omega)
            have hu := IntWalk.u64_in ((j : Int) + 1) (by omega)
            have hmin : min (j + 1) 64 = j + 1 := by omega
            clear e1 e2 e3 e4
            go_wp2
            go_region_with (first | (go_at_call 37; (with_reducible refine (A _).mono ?_); rintro e w1 ⟨rfl, hb⟩; (first | replace hT := Tab.below hT hb | replace hT := Tab.below hT.drew hb | replace hT := Tab.below (hT.box 0 0 31) hb | replace hT := Tab.below (hT.boxDrew 0 0 31) hb); clear hb; ((try clear hf hd hr hlt hnw); have hnw := hT.apart; simp only [List.forall_mem_cons, List.not_mem_nil, false_imp_iff, implies_true, and_true] at hnw; have hf := hT.bx.2.2; simp only [List.forall_mem_cons, List.not_mem_nil, false_imp_iff, implies_true, and_true, Bx1] at hf; (first | have hd := bx_apart4 hT.bx | have hd := bx_apart3 hT.bx | have hd := bx_apart2 hT.bx | have hd := trivial); have hr := Tab.now hT (by omega); have hlt := hT.lt)) | (go_at_call 96; (with_reducible refine (D _).mono ?_); rintro e w1 ⟨rfl, hb⟩; (first | replace hT := Tab.below hT hb | replace hT := Tab.below hT.drew hb | replace hT := Tab.below (hT.box 0 0 31) hb | replace hT := Tab.below (hT.boxDrew 0 0 31) hb); clear hb; ((try clear hf hd hr hlt hnw); have hnw := hT.apart; simp only [List.forall_mem_cons, List.not_mem_nil, false_imp_iff, implies_true, and_true] at hnw; have hf := hT.bx.2.2; simp only [List.forall_mem_cons, List.not_mem_nil, false_imp_iff, implies_true, and_true, Bx1] at hf; (first | have hd := bx_apart4 hT.bx | have hd := bx_apart3 hT.bx | have hd := bx_apart2 hT.bx | have hd := trivial); have hr := Tab.now hT (by omega); have hlt := hT.lt)))
            all_goals
              go_wp2_with (first | (go_at_call 97; (with_reducible refine (R1 _).mono ?_); rintro e w' ⟨rfl, rfl⟩) | (go_at_call 97; (with_reducible refine (R2 _).mono ?_); rintro e w' ⟨rfl, rfl⟩))
              go_roundw
            all_goals first
              | exact ⟨j + 1 + 1, by omega, by go_num, hT.put.alloc _⟩
              | exact ⟨j + 1 + 1, by omega, by go_num, (hT.set0 _ _).put.tail⟩
              | (simp [intOf]; omega)
          · have es := step_more j (by omega)
            have hs := Fx.step_size j (by omega)
            have hwas := hT.was (by omega)
            have R1 : ∀ w, Calls Try.prog 97 #[.int .i64 (Fx.stepA j), .int .i64 2] w fun e w' => e = .returned (.int .i64 (Fx.stepA (j + 1))) ∧ w = w' := by
              intro w; rw [← es, ← Fx.roundDiv_in (Fx.stepA j) 2 (by unfold Fx.Work; omega) (by omega) (by omega)]; exact roundDiv_any _ _ _
            clear es
            go_wp2_with (first | (go_at_call 97; (with_reducible refine (R1 _).mono ?_); rintro e w' ⟨rfl, rfl⟩))
            go_roundw
            case rel => exact ⟨j + 1 + 1, by omega, by go_num, hT.put⟩
            case measure => simp [intOf]; omega
      · obtain rfl : m = N := by omega
        go_wp2
        go_ret
        exact ⟨_, rfl, by rw [← rowL_full]; exact hT.row, hT.bx.1⟩
  · have e : stepN n = 0 := if_neg hn
    rw [e]
    have hc : n < 0 ∨ 0 ≤ n ∧ 21 < n := by omega
    clear hn e
    rcases hc with hc | hc
    all_goals
      go_enter Try.func56, Try.ntmps56
      go_wp2
      go_ret
      exact ⟨_, rfl, World.ownsRow_nil _ _ _ _, Below.refl _ _⟩

end Go.Proofs.Ytmjmafgjejphbaa
