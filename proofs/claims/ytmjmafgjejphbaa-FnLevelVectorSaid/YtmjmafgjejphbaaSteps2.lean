/-
  The walks of the tables of angles: the plan's, and the angle at a number.
-/
import Derived.Test.YtmjmafgjejphbaaStepsRow
namespace Go.Proofs.Ytmjmafgjejphbaa
open Go.RowKit

set_option maxHeartbeats 4000000 in
theorem s_stepAngles_any (n : Int) (w : World) : Calls Try.prog 55 #[.int .i64 n] w (GivesRow w (stepN n)) := by
  by_cases hn : 0 ≤ n ∧ n ≤ 21
  · have e : stepN n = n.toNat := if_pos hn
    rw [e]
    clear e
    obtain ⟨N, rfl⟩ : ∃ N : Nat, n = N := ⟨n.toNat, by omega⟩
    rw [show ((N : Int)).toNat = N by omega]
    obtain ⟨i0, hi, hz0, hz1, hz2⟩ := int_info
    go_enter Try.func55, Try.ntmps55
    go_wp2
    go_loopw [3, 4] (fun v i w' => ∃ m : Nat, m ≤ N ∧ i = .int .i64 m ∧ w'.ownsRow w.heap.size 3 1 v m (stepL m) ∧ Below w.heap.size w w') (fun _ i _ => (N - intOf i).toNat)
    case atStart => exact ⟨0, by omega, rfl, World.ownsRow_lit w #[] 0 (Nat.le_refl _) (by unfold maxLen; omega) rfl, (Below.refl _ _).alloc (Nat.le_refl _) _⟩
    case round =>
      obtain ⟨m, hm, rfl, hown, hb⟩ := hrel
      by_cases h4 : m < N
      · go_wp2_with (first
          | (go_at_call 78; refine (l1In_yes _ _ _ _ ?_).mono ?_; omega; rintro e w' ⟨rfl, rfl⟩)
          | (go_at_call 49; refine (s_stepAngle_nat m (by omega) _).mono ?_; rintro e w1 ⟨rfl, hb1⟩; replace hown := ownsRow_below' hown hb1; replace hb := hb.trans (hb1.mono hb.size); clear hb1)
          | (at_builtin; refine wpList_append_own _ rfl _ _ 40 rfl w.heap.size 3 i0 (.int .i64 0) 1 8 Try.underlying40 hi hz0 hz1 hz2 rfl (by decide) _ _ _ rfl (hown.alloc _) ⟨w1.heap.size, 0, none⟩ 1 1 [.int .i64 (Fx.stepA m)] rfl rfl ?c1 ?c2 ?c3 ?c4 ?c5 ?_))
        case c1 =>
          intro j u hj
          match j, hj with
          | 0, hj => simp at hj; subst hj; simp [Addr.add]
        case c2 => intro u hu; simp at hu; subst hu; rfl
        case c3 => unfold maxLen; omega
        case c4 => omega
        case c5 => have := hb.size; simp; omega
        intro v' w2 hown' hgrow _
        rw [← stepL_succ] at hown'
        have hb2 : Below w.heap.size w w2 := (hb.alloc (by have := hb.size; omega) _).grown hgrow (by have := hb.size; simp; omega) (by
          intro k hk
          rcases hown.2 with ⟨e1, _⟩ | ⟨g, cap, cur, e1, e2, _⟩
          · rw [e1] at hk; cases hk
          · rw [e1] at hk; simp [Value.ownBlock] at hk; omega)
        clear hown hb hgrow
        go_wp2
        go_roundw
        case rel => exact ⟨m + 1, by omega, by go_num, hown', hb2⟩
        case measure => simp [intOf]; omega
      · obtain rfl : m = N := by omega
        go_wp2
        go_ret
        exact ⟨_, rfl, hown, hb⟩
  · have e : stepN n = 0 := if_neg hn
    rw [e]
    have hc : n < 0 ∨ 0 ≤ n ∧ 21 < n := by omega
    clear hn e
    rcases hc with hc | hc
    all_goals
      go_enter Try.func55, Try.ntmps55
      go_wp2
      go_loopw [3, 4] (fun v i w' => i = .int .i64 0 ∧ w'.ownsRow w.heap.size 3 1 v 0 (stepL 0) ∧ Below w.heap.size w w') (fun _ i _ => 0)
      case atStart => exact ⟨rfl, World.ownsRow_lit w #[] 0 (Nat.le_refl _) (by unfold maxLen; omega) rfl, (Below.refl _ _).alloc (Nat.le_refl _) _⟩
      case round =>
        obtain ⟨rfl, hown, hb⟩ := hrel
        go_wp2_with (go_at_call 78; refine (l1In_no _ _ _ _ ?_).mono ?_; omega; rintro e w' ⟨rfl, rfl⟩)
        go_ret
        exact ⟨_, rfl, hown, hb⟩

set_option maxHeartbeats 2000000 in
theorem stepAngle_any (k : Int) (w : World) :
    Calls Try.prog 50 #[.int .i64 k] w fun e w' => e = .returned (.int .i64 (Fx.stepAngle k)) ∧ Below w.heap.size w w' := by
  by_cases hk : 0 ≤ k ∧ k ≤ 20
  · have e : Fx.stepAngle k = Fx.stepA k.toNat := if_pos hk
    rw [e]
    clear e
    obtain ⟨K, rfl⟩ : ∃ K : Nat, k = K := ⟨k.toNat, by omega⟩
    rw [show ((K : Int)).toNat = K by omega]
    have e : stepN ((K : Int) + 1) = K + 1 := by unfold stepN; rw [if_pos (by omega)]; omega
    have SA := fun w => stepAngles_any ((K : Int) + 1) w
    rw [e] at SA
    clear e
    go_enter Try.func50, Try.ntmps50
    go_wp2_with (go_at_call 56; go_loud (refine Calls.mono (SA _) (fun e w1 h9 => ?_); obtain ⟨v, rfl, hown, hb⟩ := h9; obtain ⟨g, cap, rfl⟩ := Joins.ownsRow_form hown (by omega); have hc := hown.cellAt K (by omega); rw [stepL_at _ _ (Nat.lt_succ_self K)] at hc))
    go_ret
    exact ⟨rfl, hb⟩
  · have e : Fx.stepAngle k = -1 := if_neg hk
    rw [e]
    have hc : k < 0 ∨ 0 ≤ k ∧ 20 < k := by omega
    clear hk e
    rcases hc with hc | hc
    all_goals
      go_enter Try.func50, Try.ntmps50
      go_wp2
      go_ret
      exact ⟨rfl, Below.refl _ _⟩

end Go.Proofs.Ytmjmafgjejphbaa
