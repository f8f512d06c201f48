/- Powers multiply: FnSpanPower returns true for every code, and reads it alone. No condition. -/
import Derived.Test.YtfllhncilfkamaaLawRoots
import Derived.Test.YtfllhncilfkamaaDrawRoots
import Derived.ShutString
import Derived.ChangeOld
namespace Go.Proofs.Ytfllhncilfkamaa.fnSpanPower
open Go.ChangeShapes Go.WideShapes Go.ChangeAt Go.RowKit

set_option maxHeartbeats 4000000 in
theorem walk (a : Option Addr) (len cap : Nat) (zs : Nat → Int) (w : World) (h : Row8 w w.heap.size a len cap zs) :
    Calls Try.prog 13 #[.slice a len cap] w fun e w' => e = .returned (.bool true) ∧ Below w.heap.size w w' := by
  have hl : len ≤ 9223372036854775807 := Nat.le_trans h.1 h.2.1
  have H := Lib.hid h
  clear h
  by_cases hlen : 1048576 < len
  · go_enter Try.func13, Try.ntmps13
    go_wp2
    go_ret
    exact ⟨rfl, Below.refl _ _⟩
  · go_enter Try.func13, Try.ntmps13
    go_wp2_with fail
    refine (drawSpanPower_any _ _ _ _ _ H.out).mono ?_
    rintro e u ⟨a, b, n, rfl, hb0⟩
    clear H
    have hx := hold_two u (.int .i64 a) (.int .i64 b) 24
    obtain ⟨X, Y, k, M1, S1, hN, hK⟩ := power_pack a b n
    (have hf := hx.2; simp only [List.forall_mem_cons, List.not_mem_nil, false_imp_iff, implies_true, and_true] at hf)
    cases k
    · obtain ⟨rfl, rfl⟩ := hN rfl
      clear hK hN
      go_wp2_with (first | (go_at_call 36; (with_reducible refine (M1 _).mono ?_); rintro e w1 ⟨rfl, hb⟩; replace hx := (hx.below hb).box (.int .i64 (0)) (.int .i64 (0)) 24; clear hb; (try clear hf); (have hf := hx.2; simp only [List.forall_mem_cons, List.not_mem_nil, false_imp_iff, implies_true, and_true] at hf)) | (go_at_call 35; (with_reducible refine (S1 _).mono ?_); rintro e w1 ⟨rfl, hb⟩; replace hx := (hx.below hb).box (.int .i64 (0)) (.int .i64 (0)) 24; clear hb; (try clear hf); (have hf := hx.2; simp only [List.forall_mem_cons, List.not_mem_nil, false_imp_iff, implies_true, and_true] at hf)) | (go_at_call 27; (with_reducible refine (alive_b _).mono ?_); rintro e w1 ⟨rfl, hb⟩; replace hx := hx.below hb; clear hb; (try clear hf); (have hf := hx.2; simp only [List.forall_mem_cons, List.not_mem_nil, false_imp_iff, implies_true, and_true] at hf)))
      go_ret
      exact ⟨rfl, hb0.trans (hx.1.mono hb0.size)⟩
    · obtain ⟨hn, v3, M0, p, q, t, U, V, m, M2, M3, hE⟩ := hK rfl
      clear hN hK
      have V3 := Lib.hid v3
      clear v3
      by_cases h20 : n = 20
      · subst h20
        clear hE
        rw [show (20 : Int) + 1 = 21 from rfl] at M3
        cases t
        all_goals cases m
        all_goals
          go_wp2_with (first | (go_at_call 36; (with_reducible refine (M1 _).mono ?_); rintro e w1 ⟨rfl, hb⟩; replace hx := (hx.below hb).box (.int .i64 (X)) (.int .i64 (Y)) 24; clear hb; (try clear hf); (have hf := hx.2; simp only [List.forall_mem_cons, List.not_mem_nil, false_imp_iff, implies_true, and_true] at hf)) | (go_at_call 35; (with_reducible refine (S1 _).mono ?_); rintro e w1 ⟨rfl, hb⟩; replace hx := (hx.below hb).box (.int .i64 (X)) (.int .i64 (Y)) 24; clear hb; (try clear hf); (have hf := hx.2; simp only [List.forall_mem_cons, List.not_mem_nil, false_imp_iff, implies_true, and_true] at hf)) | (go_at_call 36; (with_reducible refine (M0 _).mono ?_); rintro e w1 ⟨rfl, hb⟩; replace hx := (hx.below hb).box (.int .i64 (268435456)) (.int .i64 (268435456)) 24; clear hb; (try clear hf); (have hf := hx.2; simp only [List.forall_mem_cons, List.not_mem_nil, false_imp_iff, implies_true, and_true] at hf)) | (go_at_call 36; (with_reducible refine (M3 _).mono ?_); rintro e w1 ⟨rfl, hb⟩; replace hx := (hx.below hb).box (.int .i64 (U)) (.int .i64 (V)) 24; clear hb; (try clear hf); (have hf := hx.2; simp only [List.forall_mem_cons, List.not_mem_nil, false_imp_iff, implies_true, and_true] at hf)) | (go_at_call 21; (with_reducible refine (M2 _).mono ?_); rintro e w1 ⟨rfl, hb⟩; replace hx := (hx.below hb).box (.int .i64 (p)) (.int .i64 (q)) 24; clear hb; (try clear hf); (have hf := hx.2; simp only [List.forall_mem_cons, List.not_mem_nil, false_imp_iff, implies_true, and_true] at hf)) | (go_at_call 32; (with_reducible refine (spanValid_yes _ _ _ V3.out).mono ?_); rintro e w1 ⟨rfl, hb⟩; replace hx := hx.below hb; clear hb; (try clear hf); (have hf := hx.2; simp only [List.forall_mem_cons, List.not_mem_nil, false_imp_iff, implies_true, and_true] at hf)))
          go_ret
          exact ⟨ret_b (by simp; try omega), hb0.trans (hx.1.mono hb0.size)⟩
      · obtain ⟨rfl, rfl, rfl⟩ := hE h20
        have h20' : (n == 20) = false := by simpa using h20
        clear hE h20
        cases m
        all_goals
          go_wp2_with (first | (go_at_call 36; (with_reducible refine (M1 _).mono ?_); rintro e w1 ⟨rfl, hb⟩; replace hx := (hx.below hb).box (.int .i64 (X)) (.int .i64 (Y)) 24; clear hb; (try clear hf); (have hf := hx.2; simp only [List.forall_mem_cons, List.not_mem_nil, false_imp_iff, implies_true, and_true] at hf)) | (go_at_call 35; (with_reducible refine (S1 _).mono ?_); rintro e w1 ⟨rfl, hb⟩; replace hx := (hx.below hb).box (.int .i64 (X)) (.int .i64 (Y)) 24; clear hb; (try clear hf); (have hf := hx.2; simp only [List.forall_mem_cons, List.not_mem_nil, false_imp_iff, implies_true, and_true] at hf)) | (go_at_call 36; (with_reducible refine (M0 _).mono ?_); rintro e w1 ⟨rfl, hb⟩; replace hx := (hx.below hb).box (.int .i64 (268435456)) (.int .i64 (268435456)) 24; clear hb; (try clear hf); (have hf := hx.2; simp only [List.forall_mem_cons, List.not_mem_nil, false_imp_iff, implies_true, and_true] at hf)) | (go_at_call 36; (with_reducible refine (M3 _).mono ?_); rintro e w1 ⟨rfl, hb⟩; replace hx := (hx.below hb).box (.int .i64 (U)) (.int .i64 (V)) 24; clear hb; (try clear hf); (have hf := hx.2; simp only [List.forall_mem_cons, List.not_mem_nil, false_imp_iff, implies_true, and_true] at hf)) | (go_at_call 21; (with_reducible refine (M2 _).mono ?_); rintro e w1 ⟨rfl, hb⟩; replace hx := (hx.below hb).box (.int .i64 (U)) (.int .i64 (V)) 24; clear hb; (try clear hf); (have hf := hx.2; simp only [List.forall_mem_cons, List.not_mem_nil, false_imp_iff, implies_true, and_true] at hf)) | (go_at_call 32; (with_reducible refine (spanValid_yes _ _ _ V3.out).mono ?_); rintro e w1 ⟨rfl, hb⟩; replace hx := hx.below hb; clear hb; (try clear hf); (have hf := hx.2; simp only [List.forall_mem_cons, List.not_mem_nil, false_imp_iff, implies_true, and_true] at hf)))
          go_ret
          exact ⟨ret_b (by simp; try omega), hb0.trans (hx.1.mono hb0.size)⟩

/-! The frame: after the kit's own shell (proof-skeleton). -/
theorem own : ownKnob Try.prog.godebug = none := by kernel_rfl
theorem laidOut : laidOutB Try.prog = true := by kernel_rfl

set_option linter.unusedVariables false in
set_option maxRecDepth 100000 in
theorem lifted (os : Os) (started : os.Started) (H : Type) (enc : TypeId × Value → H) :
    ReturnsInHanded {} Try.checked os 13 .any (Rows.fnSpanPowerSpec.pre6 enc Try.prog Try.f13 Rows.fnSpanPowerRow.domain false) (Rows.fnSpanPowerSpec.post enc Try.prog Try.f13 false true false false) := by
  refine returnsInHanded_of_change (C := Try.checked) own started (by kernel_rfl) Try.func13
    (ChangeSpec.witness6 (enc := enc) (C := Try.checked) false ⟨#[], #[.slice none 0 0], []⟩ 8 (by kernel_rfl) (by kernel_rfl) (by kernel_rfl) (by kernel_rfl)) ?_
  intro W base args ds gs before hval0 hW hcnd _
  have hval : ∀ (j : Nat) t v, Try.f13.params[j]? = some t → args[j]? = some v → Value.okWide Try.prog W .any base t v := hval0
  have hW' := hW
  obtain ⟨p, q, hA0, hV, rfl, hfz, hnd⟩ := hW
  have hA : DataW.TrodAll enc Try.prog W 0 (fun _ => true) true Try.f13.params.toList args.toList ds p := hA0
  rw [Try.params13] at hA hval
  obtain ⟨v0, vs0, d0, ds0, p0, q0, hargs, rfl, rfl, h0, r0⟩ := trodAll_cons hA
  obtain ⟨rfl, rfl, rfl⟩ := trodAll_nil r0
  obtain rfl : args = #[v0] := by cases args; simp_all
  obtain ⟨rfl, rfl⟩ := trodVars_none hV
  have k0 := h0
  have lt0 : ∀ x ∈ p0, x.block < W.heap.size := by obtain ⟨m, hm⟩ := k0; exact DataW.trod_lt m _ _ _ hm
  obtain ⟨a0, len0, cap0, rfl⟩ := okWide_slice Try.underlying30 (hval 0 30 v0 rfl rfl)
  obtain ⟨z0, w0⟩ : ∃ zs, Row8 W W.heap.size a0 len0 cap0 zs := by
    obtain ⟨fuel, hf⟩ := h0
    rcases open_ints Try.underlying30 Try.underlying5 (by kernel_rfl) hf with ⟨hcs, _⟩ | ⟨x, l, c, zs, hcs, _, hl, hm, hz, _, hcell, hwz⟩
    · simp [Value.cells] at hcs
      obtain ⟨rfl, rfl, rfl⟩ := hcs
      exact ⟨fun _ => 0, Row8.nil W _⟩
    · simp [Value.cells] at hcs
      obtain ⟨rfl, rfl, rfl⟩ := hcs
      exact ⟨_, Row8.of_ints hl hm (by simpa using hz) hcell hwz⟩
  clear hA0 hval0
  refine (walk a0 len0 cap0 z0 W w0).mono fun e W' ⟨he, bel⟩ => ?_
  subst he
  exact ⟨_, rfl, _, _, _, [], _, [], hW', trodAll_mk1 (shut_bool Try.underlying4 _), (trodAll_cons_mk (Below.trod laidOut (by kernel_rfl) (of_decide_eq_true (by kernel_rfl)) k0 bel lt0) trodAll_mk0), rfl, bel.frame _, fun h => by cases h⟩

set_option maxRecDepth 100000 in
theorem closed : joinedFacts Try.prog 13 Try.f13 Rows.fnSpanPowerSpec Rows.fnSpanPowerRow = true := by
  unfold joinedFacts
  rw [mayEnter_ok, liftsFinal_ok, make_ok]
  kernel_rfl

theorem over : Rows.fnSpanPowerRow.holds Try.pinned (OpenSpec.ofChange Rows.fnSpanPowerSpec) :=
  OpenClaim.holds_of_wide 13 Try.f13 rfl rfl rfl rfl rfl rfl rfl ⟨rfl, rfl, rfl, rfl, rfl⟩ rfl rfl rfl rfl rfl (by kernel_rfl) Try.func13 closed
    (of_decide_eq_true (by kernel_rfl)) (by unfold Func.isWrapper; first | (rw [if_pos (by decide +kernel)]; kernel_rfl) | (rw [if_neg (by decide +kernel)]; exact ⟨rfl, rfl⟩))
    (fun os started H enc _ => lifted os started H enc)

/-- The statement. -/
theorem proved : Rows.FnSpanPowerSaid := over
#print axioms proved

end Go.Proofs.Ytfllhncilfkamaa.fnSpanPower
