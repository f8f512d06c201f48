/- Fractions of a number are quotients: FnFractionMul returns true for every code, and reads it alone. No condition. -/
import Derived.Test.YtjbaegbdacpdnaaLawFmt2
import Derived.ShutString
import Derived.ChangeOld
namespace Go.Proofs.Ytjbaegbdacpdnaa.fnFractionMul
open Go.ChangeShapes Go.WideShapes Go.ChangeAt Go.RowKit

set_option maxHeartbeats 4000000 in
theorem walk (a : Option Addr) (len cap : Nat) (zs : Nat → Int) (w : World) (h : Row8 w w.heap.size a len cap zs) :
    Calls Try.prog 20 #[.slice a len cap] w fun e w' => e = .returned (.bool true) ∧ Below w.heap.size w w' := by
  have hl : len ≤ 9223372036854775807 := Nat.le_trans h.1 h.2.1
  have H := Lib.hid h
  clear h
  by_cases hlen : 1048576 < len
  · go_enter Try.func20, Try.ntmps20
    go_wp2
    go_ret
    exact ⟨rfl, Below.refl _ _⟩
  · go_enter Try.func20, Try.ntmps20
    go_wp2_with fail
    refine (drawWholeOf_any _ _ _ _ _ H.out).mono ?_
    rintro e u ⟨W, P, n, rfl, hb0⟩
    clear H
    have hx := hold_two u (.int .i64 W) (.int .i64 P) 32
    by_cases hf : Fits W P n
    · obtain ⟨x, y, k, M1, S1, -, -, -, -⟩ := whole_pack W P n hf
      have T1 := fracmul_pack W P n hf
      have A1 := Lib.hid hf
      have V1 := Lib.hid hf.1
      clear hf
      (have hf := hx.2; simp only [List.forall_mem_cons, List.not_mem_nil, false_imp_iff, implies_true, and_true] at hf)
      go_wp2_with fail
      (have hn : Nonempty (Held u [(u.heap.size, 0, .int .i64 W), (u.heap.size, 1, .int .i64 P)]) := ⟨⟨_, hx⟩⟩; have hl0 : ∀ x : Held u [(u.heap.size, 0, .int .i64 W), (u.heap.size, 1, .int .i64 P)], x.it.cell? ⟨u.heap.size, 0, none⟩ = some (.int .i64 W) := fun x => x.at0; have hl1 : ∀ x : Held u [(u.heap.size, 0, .int .i64 W), (u.heap.size, 1, .int .i64 P)], x.it.cell? ⟨u.heap.size, 1, none⟩ = some (.int .i64 P) := fun x => x.at1; refine wp_region_hold [(u.heap.size, 0, .int .i64 W), (u.heap.size, 1, .int .i64 P)] hx (by kernel_rfl) (by kernel_rfl) ?_; (repeat (go_big_quiet_step ((first | (go_at_call 55; first | exact Calls.held (M1 _) | exact Calls.held_same (M1 _)) | (go_at_call 56; first | exact Calls.held (S1 _) | exact Calls.held_same (S1 _)))))); refine wpQuiet_nil ?_; intro _ hx; clear hn hl0 hl1)
      (try clear hf); (have hf := hx.2; simp only [List.forall_mem_cons, List.not_mem_nil, false_imp_iff, implies_true, and_true] at hf)
      go_wp2_with (go_at_call 57; (with_reducible refine (s_storedFits_yes _ _ _ _ A1.out).mono ?_); rintro e w1 ⟨rfl, hb⟩; replace hx := hx.below hb; clear hb; (try clear hf); (have hf := hx.2; simp only [List.forall_mem_cons, List.not_mem_nil, false_imp_iff, implies_true, and_true] at hf))
      (have hn : Nonempty (Held u [(u.heap.size, 0, .int .i64 W), (u.heap.size, 1, .int .i64 P)]) := ⟨⟨_, hx⟩⟩; have hl0 : ∀ x : Held u [(u.heap.size, 0, .int .i64 W), (u.heap.size, 1, .int .i64 P)], x.it.cell? ⟨u.heap.size, 0, none⟩ = some (.int .i64 W) := fun x => x.at0; have hl1 : ∀ x : Held u [(u.heap.size, 0, .int .i64 W), (u.heap.size, 1, .int .i64 P)], x.it.cell? ⟨u.heap.size, 1, none⟩ = some (.int .i64 P) := fun x => x.at1; refine wp_region_hold [(u.heap.size, 0, .int .i64 W), (u.heap.size, 1, .int .i64 P)] hx (by kernel_rfl) (by kernel_rfl) ?_; (repeat (go_big_quiet_step ((first | (go_at_call 52; first | exact Calls.held (oneOf_yes _ _ _ V1.out) | exact Calls.held_same (oneOf_yes _ _ _ V1.out)) | (go_at_call 29; first | exact Calls.held (T1 _) | exact Calls.held_same (T1 _)))))); refine wpQuiet_nil ?_; intro _ hx; clear hn hl0 hl1)
      (try clear hf); (have hf := hx.2; simp only [List.forall_mem_cons, List.not_mem_nil, false_imp_iff, implies_true, and_true] at hf)
      go_wp2
      go_ret
      exact ⟨ret_b (by simp; try omega), hb0.trans (hx.1.mono hb0.size)⟩
    · have A1 := Lib.hid hf
      clear hf
      (have hf := hx.2; simp only [List.forall_mem_cons, List.not_mem_nil, false_imp_iff, implies_true, and_true] at hf)
      go_wp2_with fail
      (have hn : Nonempty (Held u [(u.heap.size, 0, .int .i64 W), (u.heap.size, 1, .int .i64 P)]) := ⟨⟨_, hx⟩⟩; have hl0 : ∀ x : Held u [(u.heap.size, 0, .int .i64 W), (u.heap.size, 1, .int .i64 P)], x.it.cell? ⟨u.heap.size, 0, none⟩ = some (.int .i64 W) := fun x => x.at0; have hl1 : ∀ x : Held u [(u.heap.size, 0, .int .i64 W), (u.heap.size, 1, .int .i64 P)], x.it.cell? ⟨u.heap.size, 1, none⟩ = some (.int .i64 P) := fun x => x.at1; refine wp_region_hold [(u.heap.size, 0, .int .i64 W), (u.heap.size, 1, .int .i64 P)] hx (by kernel_rfl) (by kernel_rfl) ?_; (repeat (go_big_quiet_step ((first | (go_at_call 55; first | exact Calls.held (wholeOf_no _ _ _ _ A1.out) | exact Calls.held_same (wholeOf_no _ _ _ _ A1.out)) | (go_at_call 56; first | exact Calls.held (s_wholeOf_no _ _ _ _ A1.out) | exact Calls.held_same (s_wholeOf_no _ _ _ _ A1.out)))))); refine wpQuiet_nil ?_; intro _ hx; clear hn hl0 hl1)
      (try clear hf); (have hf := hx.2; simp only [List.forall_mem_cons, List.not_mem_nil, false_imp_iff, implies_true, and_true] at hf)
      go_wp2_with (first | (go_at_call 57; (with_reducible refine (s_storedFits_no _ _ _ _ A1.out).mono ?_); rintro e w1 ⟨rfl, hb⟩; replace hx := hx.below hb; clear hb; (try clear hf); (have hf := hx.2; simp only [List.forall_mem_cons, List.not_mem_nil, false_imp_iff, implies_true, and_true] at hf)) | (go_at_call 26; (with_reducible refine (alive_b _).mono ?_); rintro e w1 ⟨rfl, hb⟩; replace hx := hx.below hb; clear hb; (try clear hf); (have hf := hx.2; simp only [List.forall_mem_cons, List.not_mem_nil, false_imp_iff, implies_true, and_true] at hf)))
      go_ret
      exact ⟨rfl, hb0.trans (hx.1.mono hb0.size)⟩

/-! The frame: after the kit's own shell (proof-skeleton). -/
theorem own : ownKnob Try.prog.godebug = none := by kernel_rfl
theorem laidOut : laidOutB Try.prog = true := by kernel_rfl

set_option linter.unusedVariables false in
set_option maxRecDepth 100000 in
theorem lifted (os : Os) (started : os.Started) (H : Type) (enc : TypeId × Value → H) :
    ReturnsInHanded {} Try.checked os 20 .any (Rows.fnFractionMulSpec.pre6 enc Try.prog Try.f20 Rows.fnFractionMulRow.domain false) (Rows.fnFractionMulSpec.post enc Try.prog Try.f20 false true false false) := by
  refine returnsInHanded_of_change (C := Try.checked) own started (by kernel_rfl) Try.func20
    (ChangeSpec.witness6 (enc := enc) (C := Try.checked) false ⟨#[], #[.slice none 0 0], []⟩ 8 (by kernel_rfl) (by kernel_rfl) (by kernel_rfl) (by kernel_rfl)) ?_
  intro W base args ds gs before hval0 hW hcnd _
  have hval : ∀ (j : Nat) t v, Try.f20.params[j]? = some t → args[j]? = some v → Value.okWide Try.prog W .any base t v := hval0
  have hW' := hW
  obtain ⟨p, q, hA0, hV, rfl, hfz, hnd⟩ := hW
  have hA : DataW.TrodAll enc Try.prog W 0 (fun _ => true) true Try.f20.params.toList args.toList ds p := hA0
  rw [Try.params20] at hA hval
  obtain ⟨v0, vs0, d0, ds0, p0, q0, hargs, rfl, rfl, h0, r0⟩ := trodAll_cons hA
  obtain ⟨rfl, rfl, rfl⟩ := trodAll_nil r0
  obtain rfl : args = #[v0] := by cases args; simp_all
  obtain ⟨rfl, rfl⟩ := trodVars_none hV
  have k0 := h0
  have lt0 : ∀ x ∈ p0, x.block < W.heap.size := by obtain ⟨m, hm⟩ := k0; exact DataW.trod_lt m _ _ _ hm
  obtain ⟨a0, len0, cap0, rfl⟩ := okWide_slice Try.underlying22 (hval 0 22 v0 rfl rfl)
  obtain ⟨z0, w0⟩ : ∃ zs, Row8 W W.heap.size a0 len0 cap0 zs := by
    obtain ⟨fuel, hf⟩ := h0
    rcases open_ints Try.underlying22 Try.underlying5 (by kernel_rfl) hf with ⟨hcs, _⟩ | ⟨x, l, c, zs, hcs, _, hl, hm, hz, _, hcell, hwz⟩
    · simp [Value.cells] at hcs
      obtain ⟨rfl, rfl, rfl⟩ := hcs
      exact ⟨fun _ => 0, Row8.nil W _⟩
    · simp [Value.cells] at hcs
      obtain ⟨rfl, rfl, rfl⟩ := hcs
      exact ⟨_, Row8.of_ints hl hm (by simpa using hz) hcell hwz⟩
  clear hA0 hval0
  refine (walk a0 len0 cap0 z0 W w0).mono fun e W' ⟨he, bel⟩ => ?_
  subst he
  exact ⟨_, rfl, _, _, _, [], _, [], hW', trodAll_mk1 (shut_bool Try.underlying4 _), (trodAll_cons_mk (Below.trod laidOut (by kernel_rfl) (of_decide_eq_true (by kernel_rfl)) k0 bel lt0) trodAll_mk0), rfl, bel.frame _, fun h => by cases h⟩

set_option maxRecDepth 100000 in
theorem closed : joinedFacts Try.prog 20 Try.f20 Rows.fnFractionMulSpec Rows.fnFractionMulRow = true := by
  unfold joinedFacts
  rw [mayEnter_ok, liftsFinal_ok, make_ok]
  kernel_rfl

theorem over : Rows.fnFractionMulRow.holds Try.pinned (OpenSpec.ofChange Rows.fnFractionMulSpec) :=
  OpenClaim.holds_of_wide 20 Try.f20 rfl rfl rfl rfl rfl rfl rfl ⟨rfl, rfl, rfl, rfl, rfl⟩ rfl rfl rfl rfl rfl (by kernel_rfl) Try.func20 closed
    (of_decide_eq_true (by kernel_rfl)) (by unfold Func.isWrapper; first | (rw [if_pos (by decide +kernel)]; kernel_rfl) | (rw [if_neg (by decide +kernel)]; exact ⟨rfl, rfl⟩))
    (fun os started H enc _ => lifted os started H enc)

/-- The statement. -/
theorem proved : Rows.FnFractionMulSaid := over
#print axioms proved

end Go.Proofs.Ytjbaegbdacpdnaa.fnFractionMul
