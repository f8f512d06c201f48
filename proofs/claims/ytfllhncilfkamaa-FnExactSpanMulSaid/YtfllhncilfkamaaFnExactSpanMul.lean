/- The program's SpanMul returns what the reference's returns: FnExactSpanMul returns true for all arguments. No condition. -/
import Derived.Test.YtfllhncilfkamaaSpanMul
import Derived.Test.YtfllhncilfkamaaExact
import Derived.Deep.DeepCutAuto
import Derived.ShutString
import Derived.ChangeOld
import Derived.Lib.SmallJoins
namespace Go.Proofs.Ytfllhncilfkamaa.fnExactSpanMul
open Go.ChangeShapes Go.WideShapes Go.ChangeAt Go.RowKit

set_option maxHeartbeats 4000000 in
theorem walk (a b c d : Int) (w : World) :
    Calls Try.prog 3 #[.agg #[.int .i64 a, .int .i64 b], .agg #[.int .i64 c, .int .i64 d]] w fun e w' => e = .returned (.bool true) ∧ Below w.heap.size w w' := by
  have hx := bx_two w a b c d 23 23
  obtain ⟨X, Y, k, e⟩ : ∃ (X Y : Int) (k : Bool), Fx.spanMul a b c d = (X, Y, k) := ⟨_, _, _, rfl⟩
  have M := fun w => spanMul_any a b c d w
  have S := fun w => s_spanMul_any a b c d w
  rw [e] at M S
  clear e
  (have hf := hx.2.2; simp only [List.forall_mem_cons, List.not_mem_nil, false_imp_iff, implies_true, and_true, Bx1] at hf; first | have hd := bx_apart4 hx | have hd := bx_apart3 hx | have hd := bx_apart2 hx | have hd := trivial)
  go_enter Try.func3, Try.ntmps3
  go_upto_region 1 with fail
  clear hf hd
  generalize (w.alloc (.cells #[.int .i64 a, .int .i64 b] 23)).alloc (.cells #[.int .i64 c, .int .i64 d] 23) = W0 at *
  (have hf := hx.2.2; simp only [List.forall_mem_cons, List.not_mem_nil, false_imp_iff, implies_true, and_true, Bx1] at hf; first | have hd := bx_apart4 hx | have hd := bx_apart3 hx | have hd := bx_apart2 hx | have hd := trivial)
  go_cut [5, 6] (fun p t wx => ∃ r, p = .pointer (some ⟨r, 0, none⟩) ∧ t = .bool k ∧ Bx w [(r, X, Y), (w.heap.size + 1, c, d), (w.heap.size, a, b)] wx)
  case first =>
    go_region_with (first | (go_at_call 20; (with_reducible refine (lawSpan_any _ _ _).mono ?_); rintro e w1 ⟨rfl, hb⟩; (first | replace hx := Bx.below hx hb | replace hx := Bx.below hx.drew hb | replace hx := Bx.below (hx.box 0 0 24) hb | replace hx := Bx.below (hx.boxDrew 0 0 24) hb); clear hb; (try clear hf hd); (have hf := hx.2.2; simp only [List.forall_mem_cons, List.not_mem_nil, false_imp_iff, implies_true, and_true, Bx1] at hf; first | have hd := bx_apart4 hx | have hd := bx_apart3 hx | have hd := bx_apart2 hx | have hd := trivial)) | (go_at_call 19; (with_reducible refine (S _).mono ?_); rintro e w1 ⟨rfl, hb⟩; (first | replace hx := Bx.below hx hb | replace hx := Bx.below hx.drew hb | replace hx := Bx.below (hx.box 0 0 24) hb | replace hx := Bx.below (hx.boxDrew 0 0 24) hb); clear hb; (try clear hf hd); (have hf := hx.2.2; simp only [List.forall_mem_cons, List.not_mem_nil, false_imp_iff, implies_true, and_true, Bx1] at hf; first | have hd := bx_apart4 hx | have hd := bx_apart3 hx | have hd := bx_apart2 hx | have hd := trivial)))
    all_goals
      go_wp2_with fail
      go_meet
    all_goals first
      | exact ⟨_, rfl, rfl, hx.box _ _ _⟩
      | exact ⟨_, rfl, rfl, hx.set0 _ _⟩
  case rest =>
    clear hx hf hd
    obtain ⟨r, rfl, rfl, hx⟩ := hcut
    (have hf := hx.2.2; simp only [List.forall_mem_cons, List.not_mem_nil, false_imp_iff, implies_true, and_true, Bx1] at hf; first | have hd := bx_apart4 hx | have hd := bx_apart3 hx | have hd := bx_apart2 hx | have hd := trivial)
    go_upto_region 2 with fail
    go_cut [7, 8] (fun p t wx => ∃ s, p = .pointer (some ⟨s, 0, none⟩) ∧ t = .bool k ∧ Bx w [(s, X, Y), (r, X, Y), (w.heap.size + 1, c, d), (w.heap.size, a, b)] wx)
    case first =>
      go_region_with (first | (go_at_call 20; (with_reducible refine (lawSpan_any _ _ _).mono ?_); rintro e w1 ⟨rfl, hb⟩; (first | replace hx := Bx.below hx hb | replace hx := Bx.below hx.drew hb | replace hx := Bx.below (hx.box 0 0 24) hb | replace hx := Bx.below (hx.boxDrew 0 0 24) hb); clear hb; (try clear hf hd); (have hf := hx.2.2; simp only [List.forall_mem_cons, List.not_mem_nil, false_imp_iff, implies_true, and_true, Bx1] at hf; first | have hd := bx_apart4 hx | have hd := bx_apart3 hx | have hd := bx_apart2 hx | have hd := trivial)) | (go_at_call 21; (with_reducible refine (M _).mono ?_); rintro e w1 ⟨rfl, hb⟩; (first | replace hx := Bx.below hx hb | replace hx := Bx.below hx.drew hb | replace hx := Bx.below (hx.box 0 0 24) hb | replace hx := Bx.below (hx.boxDrew 0 0 24) hb); clear hb; (try clear hf hd); (have hf := hx.2.2; simp only [List.forall_mem_cons, List.not_mem_nil, false_imp_iff, implies_true, and_true, Bx1] at hf; first | have hd := bx_apart4 hx | have hd := bx_apart3 hx | have hd := bx_apart2 hx | have hd := trivial)))
      all_goals
        go_wp2_with fail
        go_meet
      all_goals first
        | exact ⟨_, rfl, rfl, hx.box _ _ _⟩
        | exact ⟨_, rfl, rfl, hx.set0 _ _⟩
    case rest =>
      clear hx hf hd
      obtain ⟨s, rfl, rfl, hx⟩ := hcut
      (have hf := hx.2.2; simp only [List.forall_mem_cons, List.not_mem_nil, false_imp_iff, implies_true, and_true, Bx1] at hf; first | have hd := bx_apart4 hx | have hd := bx_apart3 hx | have hd := bx_apart2 hx | have hd := trivial)
      cases k
      all_goals
        go_wp2_with (go_at_call 22; (with_reducible refine (eqSpan_same _ _ _).mono ?_); rintro e w1 ⟨rfl, hb⟩; replace hx := Bx.below hx hb; clear hb; (try clear hf hd); (have hf := hx.2.2; simp only [List.forall_mem_cons, List.not_mem_nil, false_imp_iff, implies_true, and_true, Bx1] at hf; first | have hd := bx_apart4 hx | have hd := bx_apart3 hx | have hd := bx_apart2 hx | have hd := trivial))
        go_ret
        exact ⟨rfl, hx.1⟩

/-! The frame: after the kit's own shell (proof-skeleton). -/
theorem own : ownKnob Try.prog.godebug = none := by kernel_rfl
theorem laidOut : laidOutB Try.prog = true := by kernel_rfl
theorem cells23 : Try.prog.cellsOf 23 = 2 := by kernel_rfl

set_option linter.unusedVariables false in
set_option maxRecDepth 100000 in
theorem lifted (os : Os) (started : os.Started) (H : Type) (enc : TypeId × Value → H) :
    ReturnsInHanded {} Try.checked os 3 .any (Rows.fnExactSpanMulSpec.pre6 enc Try.prog Try.f3 Rows.fnExactSpanMulRow.domain false) (Rows.fnExactSpanMulSpec.post enc Try.prog Try.f3 false true false false) := by
  refine returnsInHanded_of_change (C := Try.checked) own started (by kernel_rfl) Try.func3
    (ChangeSpec.witness6 (enc := enc) (C := Try.checked) false ⟨#[], #[.agg #[.int .i64 0, .int .i64 0], .agg #[.int .i64 0, .int .i64 0]], []⟩ 8 (by kernel_rfl) (by kernel_rfl) (by kernel_rfl) (by kernel_rfl)) ?_
  intro W base args ds gs before hval0 hW hcnd _
  have hval : ∀ (j : Nat) t v, Try.f3.params[j]? = some t → args[j]? = some v → Value.okWide Try.prog W .any base t v := hval0
  have hW' := hW
  obtain ⟨p, q, hA0, hV, rfl, hfz, hnd⟩ := hW
  have hA : DataW.TrodAll enc Try.prog W 0 (fun _ => true) true Try.f3.params.toList args.toList ds p := hA0
  rw [Try.params3] at hA hval
  obtain ⟨v0, vs0, d0, ds0, p0, q0, hargs, rfl, rfl, h0, r0⟩ := trodAll_cons hA
  obtain ⟨v1, vs1, d1, ds1, p1, q1, rfl, rfl, rfl, h1, r1⟩ := trodAll_cons r0
  obtain ⟨rfl, rfl, rfl⟩ := trodAll_nil r1
  obtain rfl : args = #[v0, v1] := by cases args; simp_all
  obtain ⟨rfl, rfl⟩ := trodVars_none hV
  have k0 := h0
  have lt0 : ∀ x ∈ p0, x.block < W.heap.size := by obtain ⟨m, hm⟩ := k0; exact DataW.trod_lt m _ _ _ hm
  obtain ⟨a0, b0, rfl⟩ : ∃ a b : Int, v0 = .agg #[.int .i64 a, .int .i64 b] := by
    obtain ⟨c0, c1, y0, y1, m, rfl, rfl, rfl, hy0, hy1⟩ := Joins.open_agg2 Try.underlying23 (by kernel_rfl) cells23 (hval 0 23 v0 rfl rfl) h0
    obtain ⟨a, e0, rfl, wa⟩ := DataW.trod_int Try.underlying3 hy0
    obtain ⟨b, e1, rfl, wb⟩ := DataW.trod_int Try.underlying3 hy1
    simp at e0 e1
    subst e0 e1
    exact ⟨a, b, rfl⟩
  have k1 := h1
  have lt1 : ∀ x ∈ p1, x.block < W.heap.size := by obtain ⟨m, hm⟩ := k1; exact DataW.trod_lt m _ _ _ hm
  obtain ⟨a1, b1, rfl⟩ : ∃ a b : Int, v1 = .agg #[.int .i64 a, .int .i64 b] := by
    obtain ⟨c0, c1, y0, y1, m, rfl, rfl, rfl, hy0, hy1⟩ := Joins.open_agg2 Try.underlying23 (by kernel_rfl) cells23 (hval 1 23 v1 rfl rfl) h1
    obtain ⟨a, e0, rfl, wa⟩ := DataW.trod_int Try.underlying3 hy0
    obtain ⟨b, e1, rfl, wb⟩ := DataW.trod_int Try.underlying3 hy1
    simp at e0 e1
    subst e0 e1
    exact ⟨a, b, rfl⟩
  clear hA0 hval0
  refine (walk a0 b0 a1 b1 W ).mono fun e W' ⟨he, bel⟩ => ?_
  subst he
  exact ⟨_, rfl, _, _, _, [], _, [], hW', trodAll_mk1 (shut_bool Try.underlying4 _), (trodAll_cons_mk (Below.trod laidOut (by kernel_rfl) (of_decide_eq_true (by kernel_rfl)) k0 bel lt0) (trodAll_cons_mk (Below.trod laidOut (by kernel_rfl) (of_decide_eq_true (by kernel_rfl)) k1 bel lt1) trodAll_mk0)), rfl, bel.frame _, fun h => by cases h⟩

set_option maxRecDepth 100000 in
theorem closed : joinedFacts Try.prog 3 Try.f3 Rows.fnExactSpanMulSpec Rows.fnExactSpanMulRow = true := by
  unfold joinedFacts
  rw [mayEnter_ok, liftsFinal_ok, make_ok]
  kernel_rfl

theorem over : Rows.fnExactSpanMulRow.holds Try.pinned (OpenSpec.ofChange Rows.fnExactSpanMulSpec) :=
  OpenClaim.holds_of_wide 3 Try.f3 rfl rfl rfl rfl rfl rfl rfl ⟨rfl, rfl, rfl, rfl, rfl⟩ rfl rfl rfl rfl rfl (by kernel_rfl) Try.func3 closed
    (of_decide_eq_true (by kernel_rfl)) (by unfold Func.isWrapper; first | (rw [if_pos (by decide +kernel)]; kernel_rfl) | (rw [if_neg (by decide +kernel)]; exact ⟨rfl, rfl⟩))
    (fun os started H enc _ => lifted os started H enc)

/-- The statement. -/
theorem proved : Rows.FnExactSpanMulSaid := over
#print axioms proved

end Go.Proofs.Ytfllhncilfkamaa.fnExactSpanMul
