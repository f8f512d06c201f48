/- The program's ToFormat returns what the reference's returns: FnExactToFormat returns true for all arguments. No condition. -/
import Derived.Test.YtjbaegbdacpdnaaFmtTo
import Derived.Test.YtjbaegbdacpdnaaHead
import Derived.ShutString
import Derived.ChangeOld
import Derived.Lib.SmallJoins
namespace Go.Proofs.Ytjbaegbdacpdnaa.fnExactToFormat
open Go.ChangeShapes Go.WideShapes Go.ChangeAt Go.RowKit

set_option maxHeartbeats 1000000 in
theorem walk (n W P V Q : Int) (w : World) :
    Calls Try.prog 5 #[.int .i64 n, .agg #[.int .i64 W, .int .i64 P], .agg #[.int .i64 V, .int .i64 Q]] w fun e w' => e = .returned (.bool true) ∧ Below w.heap.size w w' := by
  have hx := hold_four w (.int .i64 W) (.int .i64 P) (.int .i64 V) (.int .i64 Q) 29 29
  by_cases h : (((1 ≤ W ∧ W ≤ 12) ∧ 0 ≤ P ∧ P ≤ 16) ∧ -2 ^ (W + P).toNat ≤ n ∧ n ≤ 2 ^ (W + P).toNat - 1) ∧ (1 ≤ V ∧ V ≤ 12) ∧ 0 ≤ Q ∧ Q ≤ 16
  · have H := Lib.hid h
    clear h
    go_enter Try.func5, Try.ntmps5
    go_wp2
    (have hn : Nonempty (Held w [(w.heap.size, 0, .int .i64 W), (w.heap.size, 1, .int .i64 P), (w.heap.size + 1, 0, .int .i64 V), (w.heap.size + 1, 1, .int .i64 Q)]) := ⟨⟨_, hx⟩⟩; have hl0 : ∀ x : Held w [(w.heap.size, 0, .int .i64 W), (w.heap.size, 1, .int .i64 P), (w.heap.size + 1, 0, .int .i64 V), (w.heap.size + 1, 1, .int .i64 Q)], x.it.cell? ⟨w.heap.size, 0, none⟩ = some (.int .i64 W) := fun x => x.at0; have hl1 : ∀ x : Held w [(w.heap.size, 0, .int .i64 W), (w.heap.size, 1, .int .i64 P), (w.heap.size + 1, 0, .int .i64 V), (w.heap.size + 1, 1, .int .i64 Q)], x.it.cell? ⟨w.heap.size, 1, none⟩ = some (.int .i64 P) := fun x => x.at1; have hl2 : ∀ x : Held w [(w.heap.size, 0, .int .i64 W), (w.heap.size, 1, .int .i64 P), (w.heap.size + 1, 0, .int .i64 V), (w.heap.size + 1, 1, .int .i64 Q)], x.it.cell? ⟨w.heap.size + 1, 0, none⟩ = some (.int .i64 V) := fun x => x.at2; have hl3 : ∀ x : Held w [(w.heap.size, 0, .int .i64 W), (w.heap.size, 1, .int .i64 P), (w.heap.size + 1, 0, .int .i64 V), (w.heap.size + 1, 1, .int .i64 Q)], x.it.cell? ⟨w.heap.size + 1, 1, none⟩ = some (.int .i64 Q) := fun x => x.at3; refine wp_region_hold [(w.heap.size, 0, .int .i64 W), (w.heap.size, 1, .int .i64 P), (w.heap.size + 1, 0, .int .i64 V), (w.heap.size + 1, 1, .int .i64 Q)] hx (by kernel_rfl) (by kernel_rfl) ?_; (repeat (go_big_quiet_step ((first | (go_at_call 28; first | exact Calls.held (lawFormat_any _ _ _) | exact Calls.held_same (lawFormat_any _ _ _)) | (go_at_call 30; first | exact Calls.held (s_toFormat_yes _ _ _ _ _ _ H.out.1 H.out.2) | exact Calls.held_same (s_toFormat_yes _ _ _ _ _ _ H.out.1 H.out.2)) | (go_at_call 31; first | exact Calls.held (toFormat_yes _ _ _ _ _ _ H.out.1 H.out.2) | exact Calls.held_same (toFormat_yes _ _ _ _ _ _ H.out.1 H.out.2)))))); refine wpQuiet_nil ?_; intro _ hx; clear hn hl0 hl1 hl2 hl3)
    go_wp2_with fail
    (have hn : Nonempty (Held w [(w.heap.size, 0, .int .i64 W), (w.heap.size, 1, .int .i64 P), (w.heap.size + 1, 0, .int .i64 V), (w.heap.size + 1, 1, .int .i64 Q)]) := ⟨⟨_, hx⟩⟩; have hl0 : ∀ x : Held w [(w.heap.size, 0, .int .i64 W), (w.heap.size, 1, .int .i64 P), (w.heap.size + 1, 0, .int .i64 V), (w.heap.size + 1, 1, .int .i64 Q)], x.it.cell? ⟨w.heap.size, 0, none⟩ = some (.int .i64 W) := fun x => x.at0; have hl1 : ∀ x : Held w [(w.heap.size, 0, .int .i64 W), (w.heap.size, 1, .int .i64 P), (w.heap.size + 1, 0, .int .i64 V), (w.heap.size + 1, 1, .int .i64 Q)], x.it.cell? ⟨w.heap.size, 1, none⟩ = some (.int .i64 P) := fun x => x.at1; have hl2 : ∀ x : Held w [(w.heap.size, 0, .int .i64 W), (w.heap.size, 1, .int .i64 P), (w.heap.size + 1, 0, .int .i64 V), (w.heap.size + 1, 1, .int .i64 Q)], x.it.cell? ⟨w.heap.size + 1, 0, none⟩ = some (.int .i64 V) := fun x => x.at2; have hl3 : ∀ x : Held w [(w.heap.size, 0, .int .i64 W), (w.heap.size, 1, .int .i64 P), (w.heap.size + 1, 0, .int .i64 V), (w.heap.size + 1, 1, .int .i64 Q)], x.it.cell? ⟨w.heap.size + 1, 1, none⟩ = some (.int .i64 Q) := fun x => x.at3; refine wp_region_hold [(w.heap.size, 0, .int .i64 W), (w.heap.size, 1, .int .i64 P), (w.heap.size + 1, 0, .int .i64 V), (w.heap.size + 1, 1, .int .i64 Q)] hx (by kernel_rfl) (by kernel_rfl) ?_; (repeat (go_big_quiet_step ((first | (go_at_call 28; first | exact Calls.held (lawFormat_any _ _ _) | exact Calls.held_same (lawFormat_any _ _ _)) | (go_at_call 30; first | exact Calls.held (s_toFormat_yes _ _ _ _ _ _ H.out.1 H.out.2) | exact Calls.held_same (s_toFormat_yes _ _ _ _ _ _ H.out.1 H.out.2)) | (go_at_call 31; first | exact Calls.held (toFormat_yes _ _ _ _ _ _ H.out.1 H.out.2) | exact Calls.held_same (toFormat_yes _ _ _ _ _ _ H.out.1 H.out.2)))))); refine wpQuiet_nil ?_; intro _ hx; clear hn hl0 hl1 hl2 hl3)
    go_wp2
    all_goals go_ret
    exact ⟨rfl, hx.1⟩
  · have H := Lib.hid h
    clear h
    go_enter Try.func5, Try.ntmps5
    go_wp2
    (have hn : Nonempty (Held w [(w.heap.size, 0, .int .i64 W), (w.heap.size, 1, .int .i64 P), (w.heap.size + 1, 0, .int .i64 V), (w.heap.size + 1, 1, .int .i64 Q)]) := ⟨⟨_, hx⟩⟩; have hl0 : ∀ x : Held w [(w.heap.size, 0, .int .i64 W), (w.heap.size, 1, .int .i64 P), (w.heap.size + 1, 0, .int .i64 V), (w.heap.size + 1, 1, .int .i64 Q)], x.it.cell? ⟨w.heap.size, 0, none⟩ = some (.int .i64 W) := fun x => x.at0; have hl1 : ∀ x : Held w [(w.heap.size, 0, .int .i64 W), (w.heap.size, 1, .int .i64 P), (w.heap.size + 1, 0, .int .i64 V), (w.heap.size + 1, 1, .int .i64 Q)], x.it.cell? ⟨w.heap.size, 1, none⟩ = some (.int .i64 P) := fun x => x.at1; have hl2 : ∀ x : Held w [(w.heap.size, 0, .int .i64 W), (w.heap.size, 1, .int .i64 P), (w.heap.size + 1, 0, .int .i64 V), (w.heap.size + 1, 1, .int .i64 Q)], x.it.cell? ⟨w.heap.size + 1, 0, none⟩ = some (.int .i64 V) := fun x => x.at2; have hl3 : ∀ x : Held w [(w.heap.size, 0, .int .i64 W), (w.heap.size, 1, .int .i64 P), (w.heap.size + 1, 0, .int .i64 V), (w.heap.size + 1, 1, .int .i64 Q)], x.it.cell? ⟨w.heap.size + 1, 1, none⟩ = some (.int .i64 Q) := fun x => x.at3; refine wp_region_hold [(w.heap.size, 0, .int .i64 W), (w.heap.size, 1, .int .i64 P), (w.heap.size + 1, 0, .int .i64 V), (w.heap.size + 1, 1, .int .i64 Q)] hx (by kernel_rfl) (by kernel_rfl) ?_; (repeat (go_big_quiet_step ((first | (go_at_call 28; first | exact Calls.held (lawFormat_any _ _ _) | exact Calls.held_same (lawFormat_any _ _ _)) | (go_at_call 30; first | exact Calls.held (s_toFormat_no _ _ _ _ _ _ H.out) | exact Calls.held_same (s_toFormat_no _ _ _ _ _ _ H.out)) | (go_at_call 31; first | exact Calls.held (toFormat_no _ _ _ _ _ _ H.out) | exact Calls.held_same (toFormat_no _ _ _ _ _ _ H.out)))))); refine wpQuiet_nil ?_; intro _ hx; clear hn hl0 hl1 hl2 hl3)
    go_wp2_with fail
    (have hn : Nonempty (Held w [(w.heap.size, 0, .int .i64 W), (w.heap.size, 1, .int .i64 P), (w.heap.size + 1, 0, .int .i64 V), (w.heap.size + 1, 1, .int .i64 Q)]) := ⟨⟨_, hx⟩⟩; have hl0 : ∀ x : Held w [(w.heap.size, 0, .int .i64 W), (w.heap.size, 1, .int .i64 P), (w.heap.size + 1, 0, .int .i64 V), (w.heap.size + 1, 1, .int .i64 Q)], x.it.cell? ⟨w.heap.size, 0, none⟩ = some (.int .i64 W) := fun x => x.at0; have hl1 : ∀ x : Held w [(w.heap.size, 0, .int .i64 W), (w.heap.size, 1, .int .i64 P), (w.heap.size + 1, 0, .int .i64 V), (w.heap.size + 1, 1, .int .i64 Q)], x.it.cell? ⟨w.heap.size, 1, none⟩ = some (.int .i64 P) := fun x => x.at1; have hl2 : ∀ x : Held w [(w.heap.size, 0, .int .i64 W), (w.heap.size, 1, .int .i64 P), (w.heap.size + 1, 0, .int .i64 V), (w.heap.size + 1, 1, .int .i64 Q)], x.it.cell? ⟨w.heap.size + 1, 0, none⟩ = some (.int .i64 V) := fun x => x.at2; have hl3 : ∀ x : Held w [(w.heap.size, 0, .int .i64 W), (w.heap.size, 1, .int .i64 P), (w.heap.size + 1, 0, .int .i64 V), (w.heap.size + 1, 1, .int .i64 Q)], x.it.cell? ⟨w.heap.size + 1, 1, none⟩ = some (.int .i64 Q) := fun x => x.at3; refine wp_region_hold [(w.heap.size, 0, .int .i64 W), (w.heap.size, 1, .int .i64 P), (w.heap.size + 1, 0, .int .i64 V), (w.heap.size + 1, 1, .int .i64 Q)] hx (by kernel_rfl) (by kernel_rfl) ?_; (repeat (go_big_quiet_step ((first | (go_at_call 28; first | exact Calls.held (lawFormat_any _ _ _) | exact Calls.held_same (lawFormat_any _ _ _)) | (go_at_call 30; first | exact Calls.held (s_toFormat_no _ _ _ _ _ _ H.out) | exact Calls.held_same (s_toFormat_no _ _ _ _ _ _ H.out)) | (go_at_call 31; first | exact Calls.held (toFormat_no _ _ _ _ _ _ H.out) | exact Calls.held_same (toFormat_no _ _ _ _ _ _ H.out)))))); refine wpQuiet_nil ?_; intro _ hx; clear hn hl0 hl1 hl2 hl3)
    go_wp2
    all_goals go_ret
    exact ⟨rfl, hx.1⟩

/-! The frame: after the kit's own shell (proof-skeleton). -/
theorem own : ownKnob Try.prog.godebug = none := by kernel_rfl
theorem laidOut : laidOutB Try.prog = true := by kernel_rfl
theorem cells29 : Try.prog.cellsOf 29 = 2 := by kernel_rfl

set_option linter.unusedVariables false in
set_option maxRecDepth 100000 in
theorem lifted (os : Os) (started : os.Started) (H : Type) (enc : TypeId × Value → H) :
    ReturnsInHanded {} Try.checked os 5 .any (Rows.fnExactToFormatSpec.pre6 enc Try.prog Try.f5 Rows.fnExactToFormatRow.domain false) (Rows.fnExactToFormatSpec.post enc Try.prog Try.f5 false true false false) := by
  refine returnsInHanded_of_change (C := Try.checked) own started (by kernel_rfl) Try.func5
    (ChangeSpec.witness6 (enc := enc) (C := Try.checked) false ⟨#[], #[.int .i64 0, .agg #[.int .i64 0, .int .i64 0], .agg #[.int .i64 0, .int .i64 0]], []⟩ 8 (by kernel_rfl) (by kernel_rfl) (by kernel_rfl) (by kernel_rfl)) ?_
  intro W base args ds gs before hval0 hW hcnd _
  have hval : ∀ (j : Nat) t v, Try.f5.params[j]? = some t → args[j]? = some v → Value.okWide Try.prog W .any base t v := hval0
  have hW' := hW
  obtain ⟨p, q, hA0, hV, rfl, hfz, hnd⟩ := hW
  have hA : DataW.TrodAll enc Try.prog W 0 (fun _ => true) true Try.f5.params.toList args.toList ds p := hA0
  rw [Try.params5] at hA hval
  obtain ⟨v0, vs0, d0, ds0, p0, q0, hargs, rfl, rfl, h0, r0⟩ := trodAll_cons hA
  obtain ⟨v1, vs1, d1, ds1, p1, q1, rfl, rfl, rfl, h1, r1⟩ := trodAll_cons r0
  obtain ⟨v2, vs2, d2, ds2, p2, q2, rfl, rfl, rfl, h2, r2⟩ := trodAll_cons r1
  obtain ⟨rfl, rfl, rfl⟩ := trodAll_nil r2
  obtain rfl : args = #[v0, v1, v2] := by cases args; simp_all
  obtain ⟨rfl, rfl⟩ := trodVars_none hV
  have k0 := h0
  have lt0 : ∀ x ∈ p0, x.block < W.heap.size := by obtain ⟨m, hm⟩ := k0; exact DataW.trod_lt m _ _ _ hm
  obtain ⟨a0, rfl, e0, f0, w0⟩ := open_int Try.underlying3 (hval 0 3 v0 rfl rfl) h0
  have k1 := h1
  have lt1 : ∀ x ∈ p1, x.block < W.heap.size := by obtain ⟨m, hm⟩ := k1; exact DataW.trod_lt m _ _ _ hm
  obtain ⟨a1, b1, rfl⟩ : ∃ a b : Int, v1 = .agg #[.int .i64 a, .int .i64 b] := by
    obtain ⟨c0, c1, y0, y1, m, rfl, rfl, rfl, hy0, hy1⟩ := Joins.open_agg2 Try.underlying29 (by kernel_rfl) cells29 (hval 1 29 v1 rfl rfl) h1
    obtain ⟨a, e0, rfl, wa⟩ := DataW.trod_int Try.underlying3 hy0
    obtain ⟨b, e1, rfl, wb⟩ := DataW.trod_int Try.underlying3 hy1
    simp at e0 e1
    subst e0 e1
    exact ⟨a, b, rfl⟩
  have k2 := h2
  have lt2 : ∀ x ∈ p2, x.block < W.heap.size := by obtain ⟨m, hm⟩ := k2; exact DataW.trod_lt m _ _ _ hm
  obtain ⟨a2, b2, rfl⟩ : ∃ a b : Int, v2 = .agg #[.int .i64 a, .int .i64 b] := by
    obtain ⟨c0, c1, y0, y1, m, rfl, rfl, rfl, hy0, hy1⟩ := Joins.open_agg2 Try.underlying29 (by kernel_rfl) cells29 (hval 2 29 v2 rfl rfl) h2
    obtain ⟨a, e0, rfl, wa⟩ := DataW.trod_int Try.underlying3 hy0
    obtain ⟨b, e1, rfl, wb⟩ := DataW.trod_int Try.underlying3 hy1
    simp at e0 e1
    subst e0 e1
    exact ⟨a, b, rfl⟩
  clear hA0 hval0
  refine (walk a0 a1 b1 a2 b2 W ).mono fun e W' ⟨he, bel⟩ => ?_
  subst he
  exact ⟨_, rfl, _, _, _, [], _, [], hW', trodAll_mk1 (shut_bool Try.underlying4 _), (trodAll_cons_mk (Below.trod laidOut (by kernel_rfl) (of_decide_eq_true (by kernel_rfl)) k0 bel lt0) (trodAll_cons_mk (Below.trod laidOut (by kernel_rfl) (of_decide_eq_true (by kernel_rfl)) k1 bel lt1) (trodAll_cons_mk (Below.trod laidOut (by kernel_rfl) (of_decide_eq_true (by kernel_rfl)) k2 bel lt2) trodAll_mk0))), rfl, bel.frame _, fun h => by cases h⟩

set_option maxRecDepth 100000 in
theorem closed : joinedFacts Try.prog 5 Try.f5 Rows.fnExactToFormatSpec Rows.fnExactToFormatRow = true := by
  unfold joinedFacts
  rw [mayEnter_ok, liftsFinal_ok, make_ok]
  kernel_rfl

theorem over : Rows.fnExactToFormatRow.holds Try.pinned (OpenSpec.ofChange Rows.fnExactToFormatSpec) :=
  OpenClaim.holds_of_wide 5 Try.f5 rfl rfl rfl rfl rfl rfl rfl ⟨rfl, rfl, rfl, rfl, rfl⟩ rfl rfl rfl rfl rfl (by kernel_rfl) Try.func5 closed
    (of_decide_eq_true (by kernel_rfl)) (by unfold Func.isWrapper; first | (rw [if_pos (by decide +kernel)]; kernel_rfl) | (rw [if_neg (by decide +kernel)]; exact ⟨rfl, rfl⟩))
    (fun os started H enc _ => lifted os started H enc)

/-- The statement. -/
theorem proved : Rows.FnExactToFormatSaid := over
#print axioms proved

end Go.Proofs.Ytjbaegbdacpdnaa.fnExactToFormat
