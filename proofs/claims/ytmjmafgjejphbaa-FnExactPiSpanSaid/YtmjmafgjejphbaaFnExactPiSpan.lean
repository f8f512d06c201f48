/- The program's PiSpan returns what the reference's returns: FnExactPiSpan returns true for all arguments. No condition. -/
import Derived.Test.YtmjmafgjejphbaaPi
import Derived.Test.YtmjmafgjejphbaaExact
import Derived.ShutString
import Derived.ChangeOld
import Derived.Lib.SmallJoins
namespace Go.Proofs.Ytmjmafgjejphbaa.fnExactPiSpan
open Go.ChangeShapes Go.WideShapes Go.ChangeAt Go.RowKit

set_option maxHeartbeats 2000000 in
theorem walk (w : World) :
    Calls Try.prog 5 #[] w fun e w' => e = .returned (.bool true) ∧ Below w.heap.size w w' := by
  have hx := hold_none w
  obtain ⟨X, Y, e⟩ : ∃ X Y : Int, Fx.piSpan = (X, Y) := ⟨_, _, rfl⟩
  have M := fun w => piSpan_any w
  have S := fun w => s_piSpan_any w
  rw [e] at M S
  clear e
  go_enter Try.func5, Try.ntmps5
  go_wp2_with (first | (go_at_call 33; (with_reducible refine (S _).mono ?_); rintro e w1 ⟨rfl, hb⟩; replace hx := (hx.below hb).box (.int .i64 (X)) (.int .i64 (Y)) 31; clear hb; (try clear hf); (have hf := hx.2; simp only [List.forall_mem_cons, List.not_mem_nil, false_imp_iff, implies_true, and_true] at hf)) | (go_at_call 34; (with_reducible refine (M _).mono ?_); rintro e w1 ⟨rfl, hb⟩; replace hx := (hx.below hb).box (.int .i64 (X)) (.int .i64 (Y)) 31; clear hb; (try clear hf); (have hf := hx.2; simp only [List.forall_mem_cons, List.not_mem_nil, false_imp_iff, implies_true, and_true] at hf)) | (go_at_call 35; refine (eqSpan_same _ _ _).mono ?_; rintro e w1 ⟨rfl, hb⟩; replace hx := hx.below hb; clear hb; (try clear hf); (have hf := hx.2; simp only [List.forall_mem_cons, List.not_mem_nil, false_imp_iff, implies_true, and_true] at hf)))
  go_ret
  exact ⟨rfl, hx.1⟩

/-! The frame: after the kit's own shell (proof-skeleton). -/
theorem own : ownKnob Try.prog.godebug = none := by kernel_rfl
theorem laidOut : laidOutB Try.prog = true := by kernel_rfl

set_option linter.unusedVariables false in
set_option maxRecDepth 100000 in
theorem lifted (os : Os) (started : os.Started) (H : Type) (enc : TypeId × Value → H) :
    ReturnsInHanded {} Try.checked os 5 .any (Rows.fnExactPiSpanSpec.pre6 enc Try.prog Try.f5 Rows.fnExactPiSpanRow.domain false) (Rows.fnExactPiSpanSpec.post enc Try.prog Try.f5 false true false false) := by
  refine returnsInHanded_of_change (C := Try.checked) own started (by kernel_rfl) Try.func5
    (ChangeSpec.witness6 (enc := enc) (C := Try.checked) false ⟨#[], #[], []⟩ 8 (by kernel_rfl) (by kernel_rfl) (by kernel_rfl) (by kernel_rfl)) ?_
  intro W base args ds gs before hval0 hW hcnd _
  have hval : ∀ (j : Nat) t v, Try.f5.params[j]? = some t → args[j]? = some v → Value.okWide Try.prog W .any base t v := hval0
  have hW' := hW
  obtain ⟨p, q, hA0, hV, rfl, hfz, hnd⟩ := hW
  have hA : DataW.TrodAll enc Try.prog W 0 (fun _ => true) true Try.f5.params.toList args.toList ds p := hA0
  rw [Try.params5] at hA hval
  obtain ⟨hargs, rfl, rfl⟩ := trodAll_nil hA
  obtain rfl : args = #[] := by cases args; simp_all
  obtain ⟨rfl, rfl⟩ := trodVars_none hV
  clear hA0 hval0
  refine (walk  W ).mono fun e W' ⟨he, bel⟩ => ?_
  subst he
  exact ⟨_, rfl, _, _, _, [], _, [], hW', trodAll_mk1 (shut_bool Try.underlying4 _), trodAll_mk0, rfl, bel.frame _, fun h => by cases h⟩

set_option maxRecDepth 100000 in
theorem closed : joinedFacts Try.prog 5 Try.f5 Rows.fnExactPiSpanSpec Rows.fnExactPiSpanRow = true := by
  unfold joinedFacts
  rw [mayEnter_ok, liftsFinal_ok, make_ok]
  kernel_rfl

theorem over : Rows.fnExactPiSpanRow.holds Try.pinned (OpenSpec.ofChange Rows.fnExactPiSpanSpec) :=
  OpenClaim.holds_of_wide 5 Try.f5 rfl rfl rfl rfl rfl rfl rfl ⟨rfl, rfl, rfl, rfl, rfl⟩ rfl rfl rfl rfl rfl (by kernel_rfl) Try.func5 closed
    (of_decide_eq_true (by kernel_rfl)) (by unfold Func.isWrapper; first | (rw [if_pos (by decide +kernel)]; kernel_rfl) | (rw [if_neg (by decide +kernel)]; exact ⟨rfl, rfl⟩))
    (fun os started H enc _ => lifted os started H enc)

/-- The statement. -/
theorem proved : Rows.FnExactPiSpanSaid := over
#print axioms proved

end Go.Proofs.Ytmjmafgjejphbaa.fnExactPiSpan
