/- The program's LevelVector returns what the reference's returns: FnExactLevelVector returns true for all arguments. No condition. -/
import Derived.Test.YtmjmafgjejphbaaLevel
import Derived.Test.YtmjmafgjejphbaaVecExact
import Derived.ShutString
import Derived.ChangeOld
import Derived.Lib.SmallJoins
namespace Go.Proofs.Ytmjmafgjejphbaa.fnExactLevelVector
open Go.ChangeShapes Go.WideShapes Go.ChangeAt Go.RowKit

set_option maxHeartbeats 2000000 in
theorem walk (a b n : Int) (w : World) :
    Calls Try.prog 17 #[.agg #[.int .i64 a, .int .i64 b], .int .i64 n] w fun e w' => e = .returned (.bool true) ∧ Below w.heap.size w w' := by
  have hx := bx_one w a b 45
  obtain ⟨X, Y, z, q, e⟩ : ∃ (X Y z : Int) (q : Bool), Fx.levelVector a b n = (X, Y, z, q) := ⟨_, _, _, _, rfl⟩
  have M := fun w => levelVector_any a b n w
  have S := fun w => s_levelVector_any a b n w
  unfold LevelV at M S
  rw [e] at M S
  clear e
  cases q
  all_goals
    (have hf := hx.2.2; simp only [List.forall_mem_cons, List.not_mem_nil, false_imp_iff, implies_true, and_true, Bx1] at hf; first | have hd := bx_apart4 hx | have hd := bx_apart3 hx | have hd := bx_apart2 hx | have hd := trivial)
    go_enter Try.func17, Try.ntmps17
    go_wp2_with (first | (go_at_call 63; (with_reducible refine (lawVector_any _ _ _).mono ?_); rintro e w1 ⟨rfl, hb⟩; replace hx := Bx.below hx hb; clear hb; (try clear hf hd); (have hf := hx.2.2; simp only [List.forall_mem_cons, List.not_mem_nil, false_imp_iff, implies_true, and_true, Bx1] at hf; first | have hd := bx_apart4 hx | have hd := bx_apart3 hx | have hd := bx_apart2 hx | have hd := trivial)) | (go_at_call 66; (with_reducible refine (S _).mono ?_); rintro e w2 ⟨rfl, hb⟩; replace hx := (Bx.below hx hb).box (X) (Y) 46; clear hb; (try clear hf hd); (have hf := hx.2.2; simp only [List.forall_mem_cons, List.not_mem_nil, false_imp_iff, implies_true, and_true, Bx1] at hf; first | have hd := bx_apart4 hx | have hd := bx_apart3 hx | have hd := bx_apart2 hx | have hd := trivial)) | (go_at_call 67; (with_reducible refine (M _).mono ?_); rintro e w2 ⟨rfl, hb⟩; replace hx := (Bx.below hx hb).box (X) (Y) 46; clear hb; (try clear hf hd); (have hf := hx.2.2; simp only [List.forall_mem_cons, List.not_mem_nil, false_imp_iff, implies_true, and_true, Bx1] at hf; first | have hd := bx_apart4 hx | have hd := bx_apart3 hx | have hd := bx_apart2 hx | have hd := trivial)) | (go_at_call 65; (with_reducible refine (eqVector_same _ _ _).mono ?_); rintro e w1 ⟨rfl, hb⟩; replace hx := Bx.below hx hb; clear hb; (try clear hf hd); (have hf := hx.2.2; simp only [List.forall_mem_cons, List.not_mem_nil, false_imp_iff, implies_true, and_true, Bx1] at hf; first | have hd := bx_apart4 hx | have hd := bx_apart3 hx | have hd := bx_apart2 hx | have hd := trivial)))
    go_ret
    exact ⟨rfl, hx.1⟩

/-! The frame: after the kit's own shell (proof-skeleton). -/
theorem own : ownKnob Try.prog.godebug = none := by kernel_rfl
theorem laidOut : laidOutB Try.prog = true := by kernel_rfl
theorem cells45 : Try.prog.cellsOf 45 = 2 := by kernel_rfl

set_option linter.unusedVariables false in
set_option maxRecDepth 100000 in
theorem lifted (os : Os) (started : os.Started) (H : Type) (enc : TypeId × Value → H) :
    ReturnsInHanded {} Try.checked os 17 .any (Rows.fnExactLevelVectorSpec.pre6 enc Try.prog Try.f17 Rows.fnExactLevelVectorRow.domain false) (Rows.fnExactLevelVectorSpec.post enc Try.prog Try.f17 false true false false) := by
  refine returnsInHanded_of_change (C := Try.checked) own started (by kernel_rfl) Try.func17
    (ChangeSpec.witness6 (enc := enc) (C := Try.checked) false ⟨#[], #[.agg #[.int .i64 0, .int .i64 0], .int .i64 0], []⟩ 8 (by kernel_rfl) (by kernel_rfl) (by kernel_rfl) (by kernel_rfl)) ?_
  intro W base args ds gs before hval0 hW hcnd _
  have hval : ∀ (j : Nat) t v, Try.f17.params[j]? = some t → args[j]? = some v → Value.okWide Try.prog W .any base t v := hval0
  have hW' := hW
  obtain ⟨p, q, hA0, hV, rfl, hfz, hnd⟩ := hW
  have hA : DataW.TrodAll enc Try.prog W 0 (fun _ => true) true Try.f17.params.toList args.toList ds p := hA0
  rw [Try.params17] at hA hval
  obtain ⟨v0, vs0, d0, ds0, p0, q0, hargs, rfl, rfl, h0, r0⟩ := trodAll_cons hA
  obtain ⟨v1, vs1, d1, ds1, p1, q1, rfl, rfl, rfl, h1, r1⟩ := trodAll_cons r0
  obtain ⟨rfl, rfl, rfl⟩ := trodAll_nil r1
  obtain rfl : args = #[v0, v1] := by cases args; simp_all
  obtain ⟨rfl, rfl⟩ := trodVars_none hV
  have k0 := h0
  have lt0 : ∀ x ∈ p0, x.block < W.heap.size := by obtain ⟨m, hm⟩ := k0; exact DataW.trod_lt m _ _ _ hm
  obtain ⟨a0, b0, rfl⟩ : ∃ a b : Int, v0 = .agg #[.int .i64 a, .int .i64 b] := by
    obtain ⟨c0, c1, y0, y1, m, rfl, rfl, rfl, hy0, hy1⟩ := Joins.open_agg2 Try.underlying45 (by kernel_rfl) cells45 (hval 0 45 v0 rfl rfl) h0
    obtain ⟨a, e0, rfl, wa⟩ := DataW.trod_int Try.underlying3 hy0
    obtain ⟨b, e1, rfl, wb⟩ := DataW.trod_int Try.underlying3 hy1
    simp at e0 e1
    subst e0 e1
    exact ⟨a, b, rfl⟩
  have k1 := h1
  have lt1 : ∀ x ∈ p1, x.block < W.heap.size := by obtain ⟨m, hm⟩ := k1; exact DataW.trod_lt m _ _ _ hm
  obtain ⟨a1, rfl, e1, f1, w1⟩ := open_int Try.underlying3 (hval 1 3 v1 rfl rfl) h1
  clear hA0 hval0
  refine (walk a0 b0 a1 W ).mono fun e W' ⟨he, bel⟩ => ?_
  subst he
  exact ⟨_, rfl, _, _, _, [], _, [], hW', trodAll_mk1 (shut_bool Try.underlying4 _), (trodAll_cons_mk (Below.trod laidOut (by kernel_rfl) (of_decide_eq_true (by kernel_rfl)) k0 bel lt0) (trodAll_cons_mk (Below.trod laidOut (by kernel_rfl) (of_decide_eq_true (by kernel_rfl)) k1 bel lt1) trodAll_mk0)), rfl, bel.frame _, fun h => by cases h⟩

set_option maxRecDepth 100000 in
theorem closed : joinedFacts Try.prog 17 Try.f17 Rows.fnExactLevelVectorSpec Rows.fnExactLevelVectorRow = true := by
  unfold joinedFacts
  rw [mayEnter_ok, liftsFinal_ok, make_ok]
  kernel_rfl

theorem over : Rows.fnExactLevelVectorRow.holds Try.pinned (OpenSpec.ofChange Rows.fnExactLevelVectorSpec) :=
  OpenClaim.holds_of_wide 17 Try.f17 rfl rfl rfl rfl rfl rfl rfl ⟨rfl, rfl, rfl, rfl, rfl⟩ rfl rfl rfl rfl rfl (by kernel_rfl) Try.func17 closed
    (of_decide_eq_true (by kernel_rfl)) (by unfold Func.isWrapper; first | (rw [if_pos (by decide +kernel)]; kernel_rfl) | (rw [if_neg (by decide +kernel)]; exact ⟨rfl, rfl⟩))
    (fun os started H enc _ => lifted os started H enc)

/-- The statement. -/
theorem proved : Rows.FnExactLevelVectorSaid := over
#print axioms proved

end Go.Proofs.Ytmjmafgjejphbaa.fnExactLevelVector
