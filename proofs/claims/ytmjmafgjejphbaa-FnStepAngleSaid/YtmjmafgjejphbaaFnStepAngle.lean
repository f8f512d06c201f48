/- Angles of steps halve: FnStepAngle returns true for every code, and reads it alone. No condition. -/
import Derived.Test.YtmjmafgjejphbaaSteps2
import Derived.Test.YtmjmafgjejphbaaDrawOne
import Derived.Test.YtmjmafgjejphbaaLawArc
import Derived.ShutString
import Derived.ChangeOld
namespace Go.Proofs.Ytmjmafgjejphbaa.fnStepAngle
open Go.ChangeShapes Go.WideShapes Go.ChangeAt Go.RowKit

/-- The rest of the angles from k on, d of them, beside the last. -/
def sumA (k : Nat) : Nat → Int
  | 0 => Fx.stepA 20
  | d + 1 => sumA k d + Fx.stepA (k + d) + 8
theorem sumA_size (k : Nat) : ∀ d, k + d ≤ 21 → 0 ≤ sumA k d ∧ sumA k d ≤ 8388608 + 8388616 * d
  | 0, _ => by
    have := Fx.step_size 20 (by omega)
    unfold sumA; omega
  | d + 1, h => by
    have h1 := sumA_size k d (by omega)
    have h2 := Fx.step_size (k + d) (by omega)
    unfold sumA; omega
theorem sum_check : (List.range 20).all (fun j => decide (Fx.stepA j ≤ sumA (j + 1) (20 - j)) && (decide (Fx.stepA (j + 1) < Fx.stepA j) && decide (Fx.stepA j - 16 ≤ 2 * Fx.stepA (j + 1)))) = true := by decide +kernel
theorem sum_law (j : Nat) (h : j < 20) : Fx.stepA j ≤ sumA (j + 1) (20 - j) ∧ Fx.stepA (j + 1) < Fx.stepA j ∧ Fx.stepA j - 16 ≤ 2 * Fx.stepA (j + 1) := by
  have hc := sum_check
  rw [List.all_eq_true] at hc
  have h1 := hc j (List.mem_range.2 h)
  simp only [Bool.and_eq_true, decide_eq_true_eq] at h1
  exact ⟨h1.1, h1.2.1, h1.2.2⟩
theorem stepAngle_at (k : Nat) (h : k ≤ 20) : Fx.stepAngle k = Fx.stepA k := by
  unfold Fx.stepAngle; rw [if_pos (by omega)]; rfl

set_option maxHeartbeats 8000000 in
theorem walk (a : Option Addr) (len cap : Nat) (zs : Nat → Int) (w : World) (h : Row8 w w.heap.size a len cap zs) :
    Calls Try.prog 15 #[.slice a len cap] w fun e w' => e = .returned (.bool true) ∧ Below w.heap.size w w' := by
  have hl : len ≤ 9223372036854775807 := Nat.le_trans h.1 h.2.1
  have H := Lib.hid h
  clear h
  by_cases hlen : 1048576 < len
  · go_enter Try.func15, Try.ntmps15
    go_wp2
    go_ret
    exact ⟨rfl, Below.refl _ _⟩
  · go_enter Try.func15, Try.ntmps15
    go_wp2_with fail
    refine (drawStepAngle_any _ _ _ _ _ H.out).mono ?_
    rintro e u ⟨n, rfl, hb0⟩
    clear H
    have hx := Bx.nil u
    by_cases hk : 0 ≤ n ∧ n ≤ 20
    · obtain ⟨k, rfl⟩ : ∃ k : Nat, n = k := ⟨n.toNat, by omega⟩
      have e1 := stepAngle_at k (by omega)
      have M1 := fun w => stepAngle_any k w
      have S1 := fun w => s_stepAngle_any k w
      rw [e1] at M1 S1
      have z1 := Fx.step_size k (by omega)
      cases k with
      | zero =>
        have e0 : Fx.stepA 0 = 8388608 := by rw [Fx.step_is 0 (by omega)]; rfl
        rw [e0] at M1 S1
        rw [show ((0 : Nat) : Int) = 0 from rfl] at M1 S1
        clear e1 z1 e0
        go_wp2_with (first | (go_at_call 50; (with_reducible refine (M1 _).mono ?_); rintro e w1 ⟨rfl, hb⟩; replace hx := Bx.below hx hb; clear hb) | (go_at_call 49; (with_reducible refine (S1 _).mono ?_); rintro e w1 ⟨rfl, hb⟩; replace hx := Bx.below hx hb; clear hb))
        go_ret
        exact ⟨rfl, hb0.trans (hx.1.mono hb0.size)⟩
      | succ j =>
        obtain ⟨l1, l2, l3⟩ := sum_law j (by omega)
        have hz : ((j : Int) + 1 == 0) = false := by
          have : (j : Int) + 1 ≠ 0 := by omega
          simpa using this
        have M2 := fun w => stepAngle_any j w
        rw [stepAngle_at j (by omega)] at M2
        have M3 := fun w => stepAngle_any 20 w
        rw [show Fx.stepAngle 20 = Fx.stepA 20 from stepAngle_at 20 (by omega)] at M3
        have z0 := Fx.step_size j (by omega)
        have z20 := Fx.step_size 20 (by omega)
        clear e1
        rw [show ((j + 1 : Nat) : Int) = (j : Int) + 1 from rfl] at M1 S1
        go_wp2_with (first | (go_at_call 50; (with_reducible refine (M1 _).mono ?_); rintro e w1 ⟨rfl, hb⟩; replace hx := Bx.below hx hb; clear hb) | (go_at_call 49; (with_reducible refine (S1 _).mono ?_); rintro e w1 ⟨rfl, hb⟩; replace hx := Bx.below hx hb; clear hb) | (go_at_call 50; (with_reducible refine (M2 _).mono ?_); rintro e w1 ⟨rfl, hb⟩; replace hx := Bx.below hx hb; clear hb) | (go_at_call 50; (with_reducible refine (M3 _).mono ?_); rintro e w1 ⟨rfl, hb⟩; replace hx := Bx.below hx hb; clear hb))
        go_loopw [6, 7] (fun t i w' => ∃ d : Nat, d ≤ 20 - j ∧ t = .int .i64 (sumA (j + 1) d) ∧ i = .int .i64 ((j : Int) + 1 + d) ∧ Bx u [] w') (fun _ i _ => (21 - intOf i).toNat)
        case atStart => exact ⟨0, by omega, rfl, by go_num, hx⟩
        case round =>
          clear hx M1 S1 M2 M3
          obtain ⟨d, hd, rfl, rfl, hx⟩ := hrel
          by_cases h4 : d < 20 - j
          · have M4 := fun w => stepAngle_any ((j : Int) + 1 + d) w
            have e4 : Fx.stepAngle ((j : Int) + 1 + d) = Fx.stepA (j + 1 + d) := by
              have := stepAngle_at (j + 1 + d) (by omega)
              rw [← this]; congr 1
            rw [e4] at M4
            have z4 := Fx.step_size (j + 1 + d) (by omega)
            have z5 := sumA_size (j + 1) d (by omega)
            have z6 : (sumA (j + 1) (d + 1)) = sumA (j + 1) d + Fx.stepA (j + 1 + d) + 8 := rfl
            clear e4
            go_wp2_with (first | (go_at_call 50; (with_reducible refine (M4 _).mono ?_); rintro e w1 ⟨rfl, hb⟩; replace hx := Bx.below hx hb; clear hb))
            go_roundw
            case rel => exact ⟨d + 1, by omega, by rw [z6], by go_num, hx⟩
            case measure => simp [intOf]; omega
          · obtain rfl : d = 20 - j := by omega
            go_wp2
            go_ret
            exact ⟨ret_b (by simp; try omega), hb0.trans (hx.1.mono hb0.size)⟩
    · have e : Fx.stepAngle n = -1 := if_neg hk
      have M1 := fun w => stepAngle_any n w
      have S1 := fun w => s_stepAngle_any n w
      rw [e] at M1 S1
      have hc : n < 0 ∨ 0 ≤ n ∧ 20 < n := by omega
      clear hk e
      rcases hc with hc | hc
      all_goals
        go_wp2_with (first | (go_at_call 50; (with_reducible refine (M1 _).mono ?_); rintro e w1 ⟨rfl, hb⟩; replace hx := Bx.below hx hb; clear hb) | (go_at_call 49; (with_reducible refine (S1 _).mono ?_); rintro e w1 ⟨rfl, hb⟩; replace hx := Bx.below hx hb; clear hb) | (go_at_call 28; (with_reducible refine (alive_b _).mono ?_); rintro e w1 ⟨rfl, hb⟩; replace hx := Bx.below hx hb; clear hb))
        go_ret
        exact ⟨rfl, hb0.trans (hx.1.mono hb0.size)⟩

/-! The frame: after the kit's own shell (proof-skeleton). -/
theorem own : ownKnob Try.prog.godebug = none := by kernel_rfl
theorem laidOut : laidOutB Try.prog = true := by kernel_rfl

set_option linter.unusedVariables false in
set_option maxRecDepth 100000 in
theorem lifted (os : Os) (started : os.Started) (H : Type) (enc : TypeId × Value → H) :
    ReturnsInHanded {} Try.checked os 15 .any (Rows.fnStepAngleSpec.pre6 enc Try.prog Try.f15 Rows.fnStepAngleRow.domain false) (Rows.fnStepAngleSpec.post enc Try.prog Try.f15 false true false false) := by
  refine returnsInHanded_of_change (C := Try.checked) own started (by kernel_rfl) Try.func15
    (ChangeSpec.witness6 (enc := enc) (C := Try.checked) false ⟨#[], #[.slice none 0 0], []⟩ 8 (by kernel_rfl) (by kernel_rfl) (by kernel_rfl) (by kernel_rfl)) ?_
  intro W base args ds gs before hval0 hW hcnd _
  have hval : ∀ (j : Nat) t v, Try.f15.params[j]? = some t → args[j]? = some v → Value.okWide Try.prog W .any base t v := hval0
  have hW' := hW
  obtain ⟨p, q, hA0, hV, rfl, hfz, hnd⟩ := hW
  have hA : DataW.TrodAll enc Try.prog W 0 (fun _ => true) true Try.f15.params.toList args.toList ds p := hA0
  rw [Try.params15] at hA hval
  obtain ⟨v0, vs0, d0, ds0, p0, q0, hargs, rfl, rfl, h0, r0⟩ := trodAll_cons hA
  obtain ⟨rfl, rfl, rfl⟩ := trodAll_nil r0
  obtain rfl : args = #[v0] := by cases args; simp_all
  obtain ⟨rfl, rfl⟩ := trodVars_none hV
  have k0 := h0
  have lt0 : ∀ x ∈ p0, x.block < W.heap.size := by obtain ⟨m, hm⟩ := k0; exact DataW.trod_lt m _ _ _ hm
  obtain ⟨a0, len0, cap0, rfl⟩ := okWide_slice Try.underlying22 (hval 0 22 v0 rfl rfl)
  obtain ⟨z0, w0⟩ : ∃ zs, Row8 W W.heap.size a0 len0 cap0 zs := by
    obtain ⟨fuel, hf⟩ := h0
    rcases open_ints Try.underlying22 Try.underlying5 (by kernel_rfl) hf with ⟨hcs, _⟩ | ⟨x, l, c, zs, hcs, _, hl, hm, hz, _, hcell, hwz⟩
    · simp [Value.cells] at hcs
      obtain ⟨rfl, rfl, rfl⟩ := hcs
      exact ⟨fun _ => 0, Row8.nil W _⟩
    · simp [Value.cells] at hcs
      obtain ⟨rfl, rfl, rfl⟩ := hcs
      exact ⟨_, Row8.of_ints hl hm (by simpa using hz) hcell hwz⟩
  clear hA0 hval0
  refine (walk a0 len0 cap0 z0 W w0).mono fun e W' ⟨he, bel⟩ => ?_
  subst he
  exact ⟨_, rfl, _, _, _, [], _, [], hW', trodAll_mk1 (shut_bool Try.underlying4 _), (trodAll_cons_mk (Below.trod laidOut (by kernel_rfl) (of_decide_eq_true (by kernel_rfl)) k0 bel lt0) trodAll_mk0), rfl, bel.frame _, fun h => by cases h⟩

set_option maxRecDepth 100000 in
theorem closed : joinedFacts Try.prog 15 Try.f15 Rows.fnStepAngleSpec Rows.fnStepAngleRow = true := by
  unfold joinedFacts
  rw [mayEnter_ok, liftsFinal_ok, make_ok]
  kernel_rfl

theorem over : Rows.fnStepAngleRow.holds Try.pinned (OpenSpec.ofChange Rows.fnStepAngleSpec) :=
  OpenClaim.holds_of_wide 15 Try.f15 rfl rfl rfl rfl rfl rfl rfl ⟨rfl, rfl, rfl, rfl, rfl⟩ rfl rfl rfl rfl rfl (by kernel_rfl) Try.func15 closed
    (of_decide_eq_true (by kernel_rfl)) (by unfold Func.isWrapper; first | (rw [if_pos (by decide +kernel)]; kernel_rfl) | (rw [if_neg (by decide +kernel)]; exact ⟨rfl, rfl⟩))
    (fun os started H enc _ => lifted os started H enc)

/-- The statement. -/
theorem proved : Rows.FnStepAngleSaid := over
#print axioms proved

end Go.Proofs.Ytmjmafgjejphbaa.fnStepAngle
