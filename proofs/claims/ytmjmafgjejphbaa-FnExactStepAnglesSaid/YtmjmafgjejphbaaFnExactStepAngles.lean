/- The program's StepAngles returns what the reference's returns, a row of its own: FnExactStepAngles returns true for all arguments. No condition. -/
import Derived.Test.YtmjmafgjejphbaaRowInts
import Derived.ShutString
import Derived.ChangeOld
import Derived.Lib.SmallJoins
namespace Go.Proofs.Ytmjmafgjejphbaa.fnExactStepAngles
open Go.ChangeShapes Go.WideShapes Go.ChangeAt Go.RowKit

set_option maxHeartbeats 4000000 in
theorem walk (n : Int) (w : World) :
    Calls Try.prog 13 #[.int .i64 n] w fun e w' => e = .returned (.bool true) ∧ Below w.heap.size w w' := by
  have hN : stepN n ≤ 21 := by unfold stepN; split <;> omega
  have S := fun w => s_stepAngles_any n w
  have M := fun w => stepAngles_any n w
  generalize stepN n = N at *
  have hL : ∀ i, i < N → (stepL N)[i]? = some (.int .i64 (Fx.stepA i)) := fun i hi => stepL_at N i hi
  go_enter Try.func13, Try.ntmps13
  go_wp2_with fail
  refine (S _).mono ?_
  rintro e w1 ⟨v1, rfl, o1, b1⟩
  obtain ⟨a1, cap1, rfl, l1, r1⟩ := owns_is o1 hL
  clear o1
  go_wp2_with fail
  refine (M _).mono ?_
  rintro e w2 ⟨v2, rfl, o2, b2⟩
  obtain ⟨a2, cap2, rfl, l2, r2⟩ := owns_is o2 hL
  have q0 := b1.size
  replace b1 := b1.trans (b2.mono b1.size)
  have q1 := b1.size
  have q2 := b2.size
  go_wp2_with fail
  refine (eqIntS_yes a2 a1 N cap2 cap1 Fx.stepA _ (by omega) r2 (r1.below b2)).mono ?_
  rintro e w3 ⟨rfl, b3⟩
  have q3 := b3.size
  replace b1 := b1.trans (b3.mono q1)
  replace b2 := b2.trans (b3.mono q2)
  replace o2 := ownsRow_below' o2 b3
  clear r2
  have hcap : cap2 ≤ maxLen := by
    rcases o2.2 with ⟨e1, -⟩ | ⟨g, cap, cur, e1, -, -, -, e5, -⟩
    · cases e1; unfold maxLen; omega
    · cases e1; exact e5
  go_wp2_with fail
  refine (markIntS_own w1.heap.size a2 N cap2 1 Fx.stepA _ (by omega) (by omega) o2).mono ?_
  rintro e w4 ⟨rfl, r2, b4⟩
  clear o2
  replace b1 := b1.trans (b4.mono (by omega))
  replace b2 := b2.trans b4
  have q4 := b2.size
  have q5 := b1.size
  go_wp2_with fail
  refine (heldIntS_yes a2 N cap2 1 _ (by omega) (by omega) r2).mono ?_
  rintro e w5 ⟨rfl, b5⟩
  replace r2 := r2.below b5
  replace b1 := b1.trans (b5.mono q5)
  replace b2 := b2.trans (b5.mono q4)
  have q6 := b1.size
  have q7 := b2.size
  go_wp2_with fail
  refine (M _).mono ?_
  rintro e w6 ⟨v3, rfl, o3, b6⟩
  obtain ⟨a3, cap3, rfl, l3, r3⟩ := owns_is o3 hL
  clear o3
  replace r2 := r2.below b6
  replace b1 := b1.trans (b6.mono q6)
  replace b2 := b2.trans (b6.mono q7)
  have q8 := b1.size
  have q9 := b2.size
  go_wp2_with fail
  refine (eqIntS_yes a3 a1 N cap3 cap1 Fx.stepA _ (by omega) r3 (r1.below b2)).mono ?_
  rintro e w7 ⟨rfl, b7⟩
  replace r2 := r2.below b7
  replace b1 := b1.trans (b7.mono q8)
  have q10 := b1.size
  go_wp2_with fail
  refine (heldIntS_yes a2 N cap2 1 _ (by omega) (by omega) r2).mono ?_
  rintro e w8 ⟨rfl, b8⟩
  replace b1 := b1.trans (b8.mono q10)
  go_wp2
  go_ret
  exact ⟨rfl, b1⟩

/-! The frame: after the kit's own shell (proof-skeleton). -/
theorem own : ownKnob Try.prog.godebug = none := by kernel_rfl
theorem laidOut : laidOutB Try.prog = true := by kernel_rfl

set_option linter.unusedVariables false in
set_option maxRecDepth 100000 in
theorem lifted (os : Os) (started : os.Started) (H : Type) (enc : TypeId × Value → H) :
    ReturnsInHanded {} Try.checked os 13 .any (Rows.fnExactStepAnglesSpec.pre6 enc Try.prog Try.f13 Rows.fnExactStepAnglesRow.domain false) (Rows.fnExactStepAnglesSpec.post enc Try.prog Try.f13 false true false false) := by
  refine returnsInHanded_of_change (C := Try.checked) own started (by kernel_rfl) Try.func13
    (ChangeSpec.witness6 (enc := enc) (C := Try.checked) false ⟨#[], #[.int .i64 0], []⟩ 8 (by kernel_rfl) (by kernel_rfl) (by kernel_rfl) (by kernel_rfl)) ?_
  intro W base args ds gs before hval0 hW hcnd _
  have hval : ∀ (j : Nat) t v, Try.f13.params[j]? = some t → args[j]? = some v → Value.okWide Try.prog W .any base t v := hval0
  have hW' := hW
  obtain ⟨p, q, hA0, hV, rfl, hfz, hnd⟩ := hW
  have hA : DataW.TrodAll enc Try.prog W 0 (fun _ => true) true Try.f13.params.toList args.toList ds p := hA0
  rw [Try.params13] at hA hval
  obtain ⟨v0, vs0, d0, ds0, p0, q0, hargs, rfl, rfl, h0, r0⟩ := trodAll_cons hA
  obtain ⟨rfl, rfl, rfl⟩ := trodAll_nil r0
  obtain rfl : args = #[v0] := by cases args; simp_all
  obtain ⟨rfl, rfl⟩ := trodVars_none hV
  have k0 := h0
  have lt0 : ∀ x ∈ p0, x.block < W.heap.size := by obtain ⟨m, hm⟩ := k0; exact DataW.trod_lt m _ _ _ hm
  obtain ⟨a0, rfl, e0, f0, w0⟩ := open_int Try.underlying3 (hval 0 3 v0 rfl rfl) h0
  clear hA0 hval0
  refine (walk a0 W ).mono fun e W' ⟨he, bel⟩ => ?_
  subst he
  exact ⟨_, rfl, _, _, _, [], _, [], hW', trodAll_mk1 (shut_bool Try.underlying4 _), (trodAll_cons_mk (Below.trod laidOut (by kernel_rfl) (of_decide_eq_true (by kernel_rfl)) k0 bel lt0) trodAll_mk0), rfl, bel.frame _, fun h => by cases h⟩

set_option maxRecDepth 100000 in
theorem closed : joinedFacts Try.prog 13 Try.f13 Rows.fnExactStepAnglesSpec Rows.fnExactStepAnglesRow = true := by
  unfold joinedFacts
  rw [mayEnter_ok, liftsFinal_ok, make_ok]
  kernel_rfl

theorem over : Rows.fnExactStepAnglesRow.holds Try.pinned (OpenSpec.ofChange Rows.fnExactStepAnglesSpec) :=
  OpenClaim.holds_of_wide 13 Try.f13 rfl rfl rfl rfl rfl rfl rfl ⟨rfl, rfl, rfl, rfl, rfl⟩ rfl rfl rfl rfl rfl (by kernel_rfl) Try.func13 closed
    (of_decide_eq_true (by kernel_rfl)) (by unfold Func.isWrapper; first | (rw [if_pos (by decide +kernel)]; kernel_rfl) | (rw [if_neg (by decide +kernel)]; exact ⟨rfl, rfl⟩))
    (fun os started H enc _ => lifted os started H enc)

/-- The statement. -/
theorem proved : Rows.FnExactStepAnglesSaid := over
#print axioms proved

end Go.Proofs.Ytmjmafgjejphbaa.fnExactStepAngles
