/- Multiples are multiples: FnSpanTimes returns true for every code, and reads it alone. No condition. -/
import Derived.Test.YtkogpcabemklhaaLawSpan2
import Derived.ShutString
import Derived.ChangeOld
namespace Go.Proofs.Ytkogpcabemklhaa.fnSpanTimes
open Go.ChangeShapes Go.WideShapes Go.ChangeAt Go.RowKit

set_option maxHeartbeats 4000000 in
theorem walk (a : Option Addr) (len cap : Nat) (zs : Nat → Int) (w : World) (h : Row8 w w.heap.size a len cap zs) :
    Calls Try.prog 8 #[.slice a len cap] w fun e w' => e = .returned (.bool true) ∧ Below w.heap.size w w' := by
  have hl : len ≤ 9223372036854775807 := Nat.le_trans h.1 h.2.1
  have H := Lib.hid h
  clear h
  by_cases hlen : 1048576 < len
  · go_enter Try.func8, Try.ntmps8
    go_wp2
    go_ret
    exact ⟨rfl, Below.refl _ _⟩
  · go_enter Try.func8, Try.ntmps8
    go_wp2_with fail
    refine (drawSpanTimes_any _ _ _ _ _ H.out).mono ?_
    rintro e u ⟨a, b, n, rfl, hb0⟩
    clear H
    have hx := hold_two u (.int .i64 a) (.int .i64 b) 24
    obtain ⟨X, Y, k, M1, S1, hN, hK⟩ := times_pack a b n
    (have hf := hx.2; simp only [List.forall_mem_cons, List.not_mem_nil, false_imp_iff, implies_true, and_true] at hf)
    cases k
    · obtain ⟨rfl, rfl⟩ := hN rfl
      clear hK hN
      go_wp2_with (first | (go_at_call 34; (with_reducible refine (M1 _).mono ?_); rintro e w1 ⟨rfl, hb⟩; replace hx := (hx.below hb).box (.int .i64 (0)) (.int .i64 (0)) 24; clear hb; (try clear hf); (have hf := hx.2; simp only [List.forall_mem_cons, List.not_mem_nil, false_imp_iff, implies_true, and_true] at hf)) | (go_at_call 35; (with_reducible refine (S1 _).mono ?_); rintro e w1 ⟨rfl, hb⟩; replace hx := (hx.below hb).box (.int .i64 (0)) (.int .i64 (0)) 24; clear hb; (try clear hf); (have hf := hx.2; simp only [List.forall_mem_cons, List.not_mem_nil, false_imp_iff, implies_true, and_true] at hf)) | (go_at_call 17; (with_reducible refine (alive_b _).mono ?_); rintro e w1 ⟨rfl, hb⟩; replace hx := hx.below hb; clear hb; (try clear hf); (have hf := hx.2; simp only [List.forall_mem_cons, List.not_mem_nil, false_imp_iff, implies_true, and_true] at hf)))
      go_ret
      exact ⟨rfl, hb0.trans (hx.1.mono hb0.size)⟩
    · obtain ⟨v1, v3, hn, hna, T1, T2, N1, U, V, j, T3, A1⟩ := hK rfl
      clear hN hK
      have V3 := Lib.hid v3
      have W1 : (-1073741824 ≤ a ∧ a ≤ 1073741824) ∧ (-1073741824 ≤ b ∧ b ≤ 1073741824) := ⟨v1.1, v1.2.1⟩
      have m1 := Fx.mul_bounds' (a := n) (b := a) (A := 1000) (B := 1073741824) hn W1.1
      clear v1 v3
      go_wp2_with fail
      (go_at_call 34; (with_reducible refine (M1 _).mono ?_); rintro e y1 ⟨rfl, hb⟩; replace hx := (hx.below hb).box (.int .i64 (X)) (.int .i64 (Y)) 24; clear hb; (try clear hf); (have hf := hx.2; simp only [List.forall_mem_cons, List.not_mem_nil, false_imp_iff, implies_true, and_true] at hf))
      go_wp2_with fail
      (go_at_call 35; (with_reducible refine (S1 _).mono ?_); rintro e w1 ⟨rfl, hb⟩; replace hx := (hx.below hb).box (.int .i64 (X)) (.int .i64 (Y)) 24; clear hb; (try clear hf); (have hf := hx.2; simp only [List.forall_mem_cons, List.not_mem_nil, false_imp_iff, implies_true, and_true] at hf))
      go_wp2_with fail
      (go_at_call 34; (with_reducible refine (T1 _).mono ?_); rintro e y3 ⟨rfl, hb⟩; replace hx := (hx.below hb).box (.int .i64 (a)) (.int .i64 (b)) 24; clear hb; (try clear hf); (have hf := hx.2; simp only [List.forall_mem_cons, List.not_mem_nil, false_imp_iff, implies_true, and_true] at hf))
      go_wp2_with fail
      (go_at_call 34; (with_reducible refine (T2 _).mono ?_); rintro e y4 ⟨rfl, hb⟩; replace hx := (hx.below hb).box (.int .i64 (-b)) (.int .i64 (-a)) 24; clear hb; (try clear hf); (have hf := hx.2; simp only [List.forall_mem_cons, List.not_mem_nil, false_imp_iff, implies_true, and_true] at hf))
      go_wp2_with fail
      (go_at_call 34; (with_reducible refine (T3 _).mono ?_); rintro e y5 ⟨rfl, hb⟩; replace hx := (hx.below hb).box (.int .i64 (U)) (.int .i64 (V)) 24; clear hb; (try clear hf); (have hf := hx.2; simp only [List.forall_mem_cons, List.not_mem_nil, false_imp_iff, implies_true, and_true] at hf))
      go_wp2_with fail
      (go_at_call 24; (with_reducible refine (A1 _).mono ?_); rintro e y6 ⟨rfl, hb⟩; replace hx := (hx.below hb).box (.int .i64 (U)) (.int .i64 (V)) 24; clear hb; (try clear hf); (have hf := hx.2; simp only [List.forall_mem_cons, List.not_mem_nil, false_imp_iff, implies_true, and_true] at hf))
      go_wp2_with fail
      have hx2 := hx
      replace hx := Hold.sub (L' := [(y1.heap.size, 0, .int .i64 X), (y1.heap.size, 1, .int .i64 Y), (y3.heap.size, 0, .int .i64 a), (y3.heap.size, 1, .int .i64 b), (y4.heap.size, 0, .int .i64 (-b)), (y4.heap.size, 1, .int .i64 (-a)), (y5.heap.size, 0, .int .i64 U), (y5.heap.size, 1, .int .i64 V), (y6.heap.size, 0, .int .i64 U), (y6.heap.size, 1, .int .i64 V), (u.heap.size, 0, .int .i64 a), (u.heap.size, 1, .int .i64 b)]) hx (by simp)
      clear hx2
      (have hn : Nonempty (Held u [(y1.heap.size, 0, .int .i64 X), (y1.heap.size, 1, .int .i64 Y), (y3.heap.size, 0, .int .i64 a), (y3.heap.size, 1, .int .i64 b), (y4.heap.size, 0, .int .i64 (-b)), (y4.heap.size, 1, .int .i64 (-a)), (y5.heap.size, 0, .int .i64 U), (y5.heap.size, 1, .int .i64 V), (y6.heap.size, 0, .int .i64 U), (y6.heap.size, 1, .int .i64 V), (u.heap.size, 0, .int .i64 a), (u.heap.size, 1, .int .i64 b)]) := ⟨⟨_, hx⟩⟩; have hl0 : ∀ x : Held u [(y1.heap.size, 0, .int .i64 X), (y1.heap.size, 1, .int .i64 Y), (y3.heap.size, 0, .int .i64 a), (y3.heap.size, 1, .int .i64 b), (y4.heap.size, 0, .int .i64 (-b)), (y4.heap.size, 1, .int .i64 (-a)), (y5.heap.size, 0, .int .i64 U), (y5.heap.size, 1, .int .i64 V), (y6.heap.size, 0, .int .i64 U), (y6.heap.size, 1, .int .i64 V), (u.heap.size, 0, .int .i64 a), (u.heap.size, 1, .int .i64 b)], x.it.cell? ⟨y1.heap.size, 0, none⟩ = some (.int .i64 X) := fun x => x.at0; have hl1 : ∀ x : Held u [(y1.heap.size, 0, .int .i64 X), (y1.heap.size, 1, .int .i64 Y), (y3.heap.size, 0, .int .i64 a), (y3.heap.size, 1, .int .i64 b), (y4.heap.size, 0, .int .i64 (-b)), (y4.heap.size, 1, .int .i64 (-a)), (y5.heap.size, 0, .int .i64 U), (y5.heap.size, 1, .int .i64 V), (y6.heap.size, 0, .int .i64 U), (y6.heap.size, 1, .int .i64 V), (u.heap.size, 0, .int .i64 a), (u.heap.size, 1, .int .i64 b)], x.it.cell? ⟨y1.heap.size, 1, none⟩ = some (.int .i64 Y) := fun x => x.at1; have hl2 : ∀ x : Held u [(y1.heap.size, 0, .int .i64 X), (y1.heap.size, 1, .int .i64 Y), (y3.heap.size, 0, .int .i64 a), (y3.heap.size, 1, .int .i64 b), (y4.heap.size, 0, .int .i64 (-b)), (y4.heap.size, 1, .int .i64 (-a)), (y5.heap.size, 0, .int .i64 U), (y5.heap.size, 1, .int .i64 V), (y6.heap.size, 0, .int .i64 U), (y6.heap.size, 1, .int .i64 V), (u.heap.size, 0, .int .i64 a), (u.heap.size, 1, .int .i64 b)], x.it.cell? ⟨y3.heap.size, 0, none⟩ = some (.int .i64 a) := fun x => x.at2; have hl3 : ∀ x : Held u [(y1.heap.size, 0, .int .i64 X), (y1.heap.size, 1, .int .i64 Y), (y3.heap.size, 0, .int .i64 a), (y3.heap.size, 1, .int .i64 b), (y4.heap.size, 0, .int .i64 (-b)), (y4.heap.size, 1, .int .i64 (-a)), (y5.heap.size, 0, .int .i64 U), (y5.heap.size, 1, .int .i64 V), (y6.heap.size, 0, .int .i64 U), (y6.heap.size, 1, .int .i64 V), (u.heap.size, 0, .int .i64 a), (u.heap.size, 1, .int .i64 b)], x.it.cell? ⟨y3.heap.size, 1, none⟩ = some (.int .i64 b) := fun x => x.at3; have hl4 : ∀ x : Held u [(y1.heap.size, 0, .int .i64 X), (y1.heap.size, 1, .int .i64 Y), (y3.heap.size, 0, .int .i64 a), (y3.heap.size, 1, .int .i64 b), (y4.heap.size, 0, .int .i64 (-b)), (y4.heap.size, 1, .int .i64 (-a)), (y5.heap.size, 0, .int .i64 U), (y5.heap.size, 1, .int .i64 V), (y6.heap.size, 0, .int .i64 U), (y6.heap.size, 1, .int .i64 V), (u.heap.size, 0, .int .i64 a), (u.heap.size, 1, .int .i64 b)], x.it.cell? ⟨y4.heap.size, 0, none⟩ = some (.int .i64 (-b)) := fun x => x.at4; have hl5 : ∀ x : Held u [(y1.heap.size, 0, .int .i64 X), (y1.heap.size, 1, .int .i64 Y), (y3.heap.size, 0, .int .i64 a), (y3.heap.size, 1, .int .i64 b), (y4.heap.size, 0, .int .i64 (-b)), (y4.heap.size, 1, .int .i64 (-a)), (y5.heap.size, 0, .int .i64 U), (y5.heap.size, 1, .int .i64 V), (y6.heap.size, 0, .int .i64 U), (y6.heap.size, 1, .int .i64 V), (u.heap.size, 0, .int .i64 a), (u.heap.size, 1, .int .i64 b)], x.it.cell? ⟨y4.heap.size, 1, none⟩ = some (.int .i64 (-a)) := fun x => x.at5; have hl6 : ∀ x : Held u [(y1.heap.size, 0, .int .i64 X), (y1.heap.size, 1, .int .i64 Y), (y3.heap.size, 0, .int .i64 a), (y3.heap.size, 1, .int .i64 b), (y4.heap.size, 0, .int .i64 (-b)), (y4.heap.size, 1, .int .i64 (-a)), (y5.heap.size, 0, .int .i64 U), (y5.heap.size, 1, .int .i64 V), (y6.heap.size, 0, .int .i64 U), (y6.heap.size, 1, .int .i64 V), (u.heap.size, 0, .int .i64 a), (u.heap.size, 1, .int .i64 b)], x.it.cell? ⟨y5.heap.size, 0, none⟩ = some (.int .i64 U) := fun x => x.at6; have hl7 : ∀ x : Held u [(y1.heap.size, 0, .int .i64 X), (y1.heap.size, 1, .int .i64 Y), (y3.heap.size, 0, .int .i64 a), (y3.heap.size, 1, .int .i64 b), (y4.heap.size, 0, .int .i64 (-b)), (y4.heap.size, 1, .int .i64 (-a)), (y5.heap.size, 0, .int .i64 U), (y5.heap.size, 1, .int .i64 V), (y6.heap.size, 0, .int .i64 U), (y6.heap.size, 1, .int .i64 V), (u.heap.size, 0, .int .i64 a), (u.heap.size, 1, .int .i64 b)], x.it.cell? ⟨y5.heap.size, 1, none⟩ = some (.int .i64 V) := fun x => x.at7; have hl8 : ∀ x : Held u [(y1.heap.size, 0, .int .i64 X), (y1.heap.size, 1, .int .i64 Y), (y3.heap.size, 0, .int .i64 a), (y3.heap.size, 1, .int .i64 b), (y4.heap.size, 0, .int .i64 (-b)), (y4.heap.size, 1, .int .i64 (-a)), (y5.heap.size, 0, .int .i64 U), (y5.heap.size, 1, .int .i64 V), (y6.heap.size, 0, .int .i64 U), (y6.heap.size, 1, .int .i64 V), (u.heap.size, 0, .int .i64 a), (u.heap.size, 1, .int .i64 b)], x.it.cell? ⟨y6.heap.size, 0, none⟩ = some (.int .i64 U) := fun x => x.at8; have hl9 : ∀ x : Held u [(y1.heap.size, 0, .int .i64 X), (y1.heap.size, 1, .int .i64 Y), (y3.heap.size, 0, .int .i64 a), (y3.heap.size, 1, .int .i64 b), (y4.heap.size, 0, .int .i64 (-b)), (y4.heap.size, 1, .int .i64 (-a)), (y5.heap.size, 0, .int .i64 U), (y5.heap.size, 1, .int .i64 V), (y6.heap.size, 0, .int .i64 U), (y6.heap.size, 1, .int .i64 V), (u.heap.size, 0, .int .i64 a), (u.heap.size, 1, .int .i64 b)], x.it.cell? ⟨y6.heap.size, 1, none⟩ = some (.int .i64 V) := fun x => x.at9; have hl10 : ∀ x : Held u [(y1.heap.size, 0, .int .i64 X), (y1.heap.size, 1, .int .i64 Y), (y3.heap.size, 0, .int .i64 a), (y3.heap.size, 1, .int .i64 b), (y4.heap.size, 0, .int .i64 (-b)), (y4.heap.size, 1, .int .i64 (-a)), (y5.heap.size, 0, .int .i64 U), (y5.heap.size, 1, .int .i64 V), (y6.heap.size, 0, .int .i64 U), (y6.heap.size, 1, .int .i64 V), (u.heap.size, 0, .int .i64 a), (u.heap.size, 1, .int .i64 b)], x.it.cell? ⟨u.heap.size, 0, none⟩ = some (.int .i64 a) := fun x => x.at10; have hl11 : ∀ x : Held u [(y1.heap.size, 0, .int .i64 X), (y1.heap.size, 1, .int .i64 Y), (y3.heap.size, 0, .int .i64 a), (y3.heap.size, 1, .int .i64 b), (y4.heap.size, 0, .int .i64 (-b)), (y4.heap.size, 1, .int .i64 (-a)), (y5.heap.size, 0, .int .i64 U), (y5.heap.size, 1, .int .i64 V), (y6.heap.size, 0, .int .i64 U), (y6.heap.size, 1, .int .i64 V), (u.heap.size, 0, .int .i64 a), (u.heap.size, 1, .int .i64 b)], x.it.cell? ⟨u.heap.size, 1, none⟩ = some (.int .i64 b) := fun x => x.at11; refine wp_region_hold [(y1.heap.size, 0, .int .i64 X), (y1.heap.size, 1, .int .i64 Y), (y3.heap.size, 0, .int .i64 a), (y3.heap.size, 1, .int .i64 b), (y4.heap.size, 0, .int .i64 (-b)), (y4.heap.size, 1, .int .i64 (-a)), (y5.heap.size, 0, .int .i64 U), (y5.heap.size, 1, .int .i64 V), (y6.heap.size, 0, .int .i64 U), (y6.heap.size, 1, .int .i64 V), (u.heap.size, 0, .int .i64 a), (u.heap.size, 1, .int .i64 b)] hx (by kernel_rfl) (by kernel_rfl) ?_; (repeat (go_big_quiet_step ((first | (go_at_call 18; first | exact Calls.held (spanValid_yes _ _ _ V3.out) | exact Calls.held_same (spanValid_yes _ _ _ V3.out)) | (go_at_call 14; first | exact Calls.held (N1 _) | exact Calls.held_same (N1 _)) | (go_at_call 26; first | exact Calls.held (spanHas_yes _ _ _ _ V3.out hna) | exact Calls.held_same (spanHas_yes _ _ _ _ V3.out hna)))))); refine wpQuiet_nil ?_; intro _ hx; clear hn hl0 hl1 hl2 hl3 hl4 hl5 hl6 hl7 hl8 hl9 hl10 hl11)
      (try clear hf); (have hf := hx.2; simp only [List.forall_mem_cons, List.not_mem_nil, false_imp_iff, implies_true, and_true] at hf)
      go_wp2
      go_ret
      exact ⟨rfl, hb0.trans (hx.1.mono hb0.size)⟩

/-! The frame: after the kit's own shell (proof-skeleton). -/
theorem own : ownKnob Try.prog.godebug = none := by kernel_rfl
theorem laidOut : laidOutB Try.prog = true := by kernel_rfl

set_option linter.unusedVariables false in
set_option maxRecDepth 100000 in
theorem lifted (os : Os) (started : os.Started) (H : Type) (enc : TypeId × Value → H) :
    ReturnsInHanded {} Try.checked os 8 .any (Rows.fnSpanTimesSpec.pre6 enc Try.prog Try.f8 Rows.fnSpanTimesRow.domain false) (Rows.fnSpanTimesSpec.post enc Try.prog Try.f8 false true false false) := by
  refine returnsInHanded_of_change (C := Try.checked) own started (by kernel_rfl) Try.func8
    (ChangeSpec.witness6 (enc := enc) (C := Try.checked) false ⟨#[], #[.slice none 0 0], []⟩ 8 (by kernel_rfl) (by kernel_rfl) (by kernel_rfl) (by kernel_rfl)) ?_
  intro W base args ds gs before hval0 hW hcnd _
  have hval : ∀ (j : Nat) t v, Try.f8.params[j]? = some t → args[j]? = some v → Value.okWide Try.prog W .any base t v := hval0
  have hW' := hW
  obtain ⟨p, q, hA0, hV, rfl, hfz, hnd⟩ := hW
  have hA : DataW.TrodAll enc Try.prog W 0 (fun _ => true) true Try.f8.params.toList args.toList ds p := hA0
  rw [Try.params8] at hA hval
  obtain ⟨v0, vs0, d0, ds0, p0, q0, hargs, rfl, rfl, h0, r0⟩ := trodAll_cons hA
  obtain ⟨rfl, rfl, rfl⟩ := trodAll_nil r0
  obtain rfl : args = #[v0] := by cases args; simp_all
  obtain ⟨rfl, rfl⟩ := trodVars_none hV
  have k0 := h0
  have lt0 : ∀ x ∈ p0, x.block < W.heap.size := by obtain ⟨m, hm⟩ := k0; exact DataW.trod_lt m _ _ _ hm
  obtain ⟨a0, len0, cap0, rfl⟩ := okWide_slice Try.underlying22 (hval 0 22 v0 rfl rfl)
  obtain ⟨z0, w0⟩ : ∃ zs, Row8 W W.heap.size a0 len0 cap0 zs := by
    obtain ⟨fuel, hf⟩ := h0
    rcases open_ints Try.underlying22 Try.underlying5 (by kernel_rfl) hf with ⟨hcs, _⟩ | ⟨x, l, c, zs, hcs, _, hl, hm, hz, _, hcell, hwz⟩
    · simp [Value.cells] at hcs
      obtain ⟨rfl, rfl, rfl⟩ := hcs
      exact ⟨fun _ => 0, Row8.nil W _⟩
    · simp [Value.cells] at hcs
      obtain ⟨rfl, rfl, rfl⟩ := hcs
      exact ⟨_, Row8.of_ints hl hm (by simpa using hz) hcell hwz⟩
  clear hA0 hval0
  refine (walk a0 len0 cap0 z0 W w0).mono fun e W' ⟨he, bel⟩ => ?_
  subst he
  exact ⟨_, rfl, _, _, _, [], _, [], hW', trodAll_mk1 (shut_bool Try.underlying4 _), (trodAll_cons_mk (Below.trod laidOut (by kernel_rfl) (of_decide_eq_true (by kernel_rfl)) k0 bel lt0) trodAll_mk0), rfl, bel.frame _, fun h => by cases h⟩

set_option maxRecDepth 100000 in
theorem closed : joinedFacts Try.prog 8 Try.f8 Rows.fnSpanTimesSpec Rows.fnSpanTimesRow = true := by
  unfold joinedFacts
  rw [mayEnter_ok, liftsFinal_ok, make_ok]
  kernel_rfl

theorem over : Rows.fnSpanTimesRow.holds Try.pinned (OpenSpec.ofChange Rows.fnSpanTimesSpec) :=
  OpenClaim.holds_of_wide 8 Try.f8 rfl rfl rfl rfl rfl rfl rfl ⟨rfl, rfl, rfl, rfl, rfl⟩ rfl rfl rfl rfl rfl (by kernel_rfl) Try.func8 closed
    (of_decide_eq_true (by kernel_rfl)) (by unfold Func.isWrapper; first | (rw [if_pos (by decide +kernel)]; kernel_rfl) | (rw [if_neg (by decide +kernel)]; exact ⟨rfl, rfl⟩))
    (fun os started H enc _ => lifted os started H enc)

/-- The statement. -/
theorem proved : Rows.FnSpanTimesSaid := over
#print axioms proved

end Go.Proofs.Ytkogpcabemklhaa.fnSpanTimes
