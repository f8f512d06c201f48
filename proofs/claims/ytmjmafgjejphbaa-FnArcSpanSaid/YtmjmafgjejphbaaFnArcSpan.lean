/- Arc tangents are between bounds: FnArcSpan returns true for every code, and reads it alone. No condition. -/
import Derived.Test.YtmjmafgjejphbaaLawArc
import Derived.Test.YtmjmafgjejphbaaDrawArc
import Derived.ShutString
import Derived.ChangeOld
namespace Go.Proofs.Ytmjmafgjejphbaa.fnArcSpan
open Go.ChangeShapes Go.WideShapes Go.ChangeAt Go.RowKit

set_option maxHeartbeats 8000000 in
theorem walk (a : Option Addr) (len cap : Nat) (zs : Nat → Int) (w : World) (h : Row8 w w.heap.size a len cap zs) :
    Calls Try.prog 6 #[.slice a len cap] w fun e w' => e = .returned (.bool true) ∧ Below w.heap.size w w' := by
  have hl : len ≤ 9223372036854775807 := Nat.le_trans h.1 h.2.1
  have H := Lib.hid h
  clear h
  by_cases hlen : 1048576 < len
  · go_enter Try.func6, Try.ntmps6
    go_wp2
    go_ret
    exact ⟨rfl, Below.refl _ _⟩
  · go_enter Try.func6, Try.ntmps6
    go_wp2_with fail
    refine (drawArcSpan_any _ _ _ _ _ H.out).mono ?_
    rintro e u ⟨k, rfl, hb0⟩
    clear H
    have hx := Bx.nil u
    obtain ⟨X, Y, M1, S1, hN, hK⟩ := arc_pack k
    by_cases hk : 2 ≤ k ∧ k ≤ 65536
    · obtain ⟨v, g1, g2, g3, g4, ⟨p, q, M2, hp⟩, p', q', M3, hp'⟩ := hK hk
      have V := Lib.hid v
      have W1 : (-1073741824 ≤ X ∧ X ≤ 1073741824) ∧ (-1073741824 ≤ Y ∧ Y ≤ 1073741824) ∧ X ≤ Y := v
      have hz : (k == 0) = false := by
        have : k ≠ 0 := by omega
        simpa using this
      have k3 : 0 ≤ 3 * k ∧ 3 * k ≤ 196608 := by omega
      have k4 := Fx.mul_bounds (a := 3 * k) (b := k) (A := 196608) (B := 65536) (by omega) (by omega)
      have k5 : 1 ≤ 3 * k * k := by
        have : 1 * 1 ≤ (3 * k) * k := Int.mul_le_mul (by omega) (by omega) (by omega) (by omega)
        omega
      have k6 := Fx.mul_bounds (a := 3 * k * k) (b := k) (A := 12884901888) (B := 65536) (by omega) (by omega)
      have k7 : 1 ≤ 3 * k * k * k := by
        have : 1 * 1 ≤ (3 * k * k) * k := Int.mul_le_mul (by omega) (by omega) (by omega) (by omega)
        omega
      have hz2 : ¬ 3 * k * k * k = 0 := by omega
      have q1 : (268435456 : Int).tdiv k = 268435456 / k := Int.tdiv_eq_ediv_of_nonneg (by omega)
      have q2 : (268435456 : Int).tdiv (3 * k * k * k) = 268435456 / (3 * k * k * k) := Int.tdiv_eq_ediv_of_nonneg (by omega)
      have b1 := Fx.ediv_bounds 268435456 k (by omega) 268435456 (by omega) (by omega)
      have b2 := Fx.ediv_bounds 268435456 (3 * k * k * k) (by omega) 268435456 (by omega) (by omega)
      clear v hN hK k5 k7
      by_cases h6 : k < 65535
      · have hq := hp' h6
        have hmin : min 65536 (k + 1) = k + 1 := by omega
        have e1 : (k == 65536) = false := by
          have : k ≠ 65536 := by omega
          simpa using this
        clear M2 hp hp'
        generalize 268435456 / k = y1 at *
        generalize 268435456 / (3 * k * k * k) = y2 at *
        go_wp2_with fail
        (go_at_call 37; (with_reducible refine (M1 _).mono ?_); rintro e x1 ⟨rfl, hb⟩; replace hx := (Bx.below hx hb).box (X) (Y) 31; clear hb; (try clear hf hd); (have hf := hx.2.2; simp only [List.forall_mem_cons, List.not_mem_nil, false_imp_iff, implies_true, and_true, Bx1] at hf; first | have hd := bx_apart4 hx | have hd := bx_apart3 hx | have hd := bx_apart2 hx | have hd := trivial))
        go_wp2_with fail
        (have hn : Nonempty (BxW u [(x1.heap.size, X, Y)]) := ⟨⟨_, hx⟩⟩; have hl0 := fun x : BxW u [(x1.heap.size, X, Y)] => x.at0; refine wp_region_bx hx (by kernel_rfl) (by kernel_rfl) ?_; (repeat (first | go_big_quiet_step (((go_at_call 38; first | (with_reducible exact Calls.heldB (S1 _)) | (with_reducible exact Calls.heldB_same (S1 _))))) | quiet_step (fail))); refine wpQuiet_nil ?_; clear hx; intro _ hx; clear hn hl0)
        clear hf hd
        (have hf := hx.2.2; simp only [List.forall_mem_cons, List.not_mem_nil, false_imp_iff, implies_true, and_true, Bx1] at hf; first | have hd := bx_apart4 hx | have hd := bx_apart3 hx | have hd := bx_apart2 hx | have hd := trivial)
        go_wp2_with (first | (go_at_call 37; (with_reducible refine (M3 _).mono ?_); rintro e x2 ⟨rfl, hb⟩; replace hx := (Bx.below hx hb).box (p') (q') 31; clear hb; (try clear hf hd); (have hf := hx.2.2; simp only [List.forall_mem_cons, List.not_mem_nil, false_imp_iff, implies_true, and_true, Bx1] at hf; first | have hd := bx_apart4 hx | have hd := bx_apart3 hx | have hd := bx_apart2 hx | have hd := trivial)) | (go_at_call 39; (with_reducible refine (spanValid_yes _ _ _ V.out).mono ?_); rintro e w1 ⟨rfl, hb⟩; replace hx := Bx.below hx hb; clear hb; (try clear hf hd); (have hf := hx.2.2; simp only [List.forall_mem_cons, List.not_mem_nil, false_imp_iff, implies_true, and_true, Bx1] at hf; first | have hd := bx_apart4 hx | have hd := bx_apart3 hx | have hd := bx_apart2 hx | have hd := trivial)))
        go_ret
        exact ⟨ret_b (by simp; try omega), hb0.trans (hx.1.mono hb0.size)⟩
      · rcases (show k = 65535 ∨ k = 65536 by omega) with rfl | rfl
        · have hq := hp rfl
          have g1' : X ≤ 4097 := by omega
          have g2' : 4095 ≤ Y := by omega
          clear M3 hp hp' h6 hz hz2 k3 k4 k6 q1 q2 b1 b2 g1 g2
          go_wp2_with fail
          (go_at_call 37; (with_reducible refine (M1 _).mono ?_); rintro e x1 ⟨rfl, hb⟩; replace hx := (Bx.below hx hb).box (X) (Y) 31; clear hb; (try clear hf hd); (have hf := hx.2.2; simp only [List.forall_mem_cons, List.not_mem_nil, false_imp_iff, implies_true, and_true, Bx1] at hf; first | have hd := bx_apart4 hx | have hd := bx_apart3 hx | have hd := bx_apart2 hx | have hd := trivial))
          go_wp2_with fail
          (have hn : Nonempty (BxW u [(x1.heap.size, X, Y)]) := ⟨⟨_, hx⟩⟩; have hl0 := fun x : BxW u [(x1.heap.size, X, Y)] => x.at0; refine wp_region_bx hx (by kernel_rfl) (by kernel_rfl) ?_; (repeat (first | go_big_quiet_step (((go_at_call 38; first | (with_reducible exact Calls.heldB (S1 _)) | (with_reducible exact Calls.heldB_same (S1 _))))) | quiet_step (fail))); refine wpQuiet_nil ?_; clear hx; intro _ hx; clear hn hl0)
          clear hf hd
          (have hf := hx.2.2; simp only [List.forall_mem_cons, List.not_mem_nil, false_imp_iff, implies_true, and_true, Bx1] at hf; first | have hd := bx_apart4 hx | have hd := bx_apart3 hx | have hd := bx_apart2 hx | have hd := trivial)
          go_wp2_with (first | (go_at_call 37; (with_reducible refine (M2 _).mono ?_); rintro e x2 ⟨rfl, hb⟩; replace hx := (Bx.below hx hb).box (p) (q) 31; clear hb; (try clear hf hd); (have hf := hx.2.2; simp only [List.forall_mem_cons, List.not_mem_nil, false_imp_iff, implies_true, and_true, Bx1] at hf; first | have hd := bx_apart4 hx | have hd := bx_apart3 hx | have hd := bx_apart2 hx | have hd := trivial)) | (go_at_call 39; (with_reducible refine (spanValid_yes _ _ _ V.out).mono ?_); rintro e w1 ⟨rfl, hb⟩; replace hx := Bx.below hx hb; clear hb; (try clear hf hd); (have hf := hx.2.2; simp only [List.forall_mem_cons, List.not_mem_nil, false_imp_iff, implies_true, and_true, Bx1] at hf; first | have hd := bx_apart4 hx | have hd := bx_apart3 hx | have hd := bx_apart2 hx | have hd := trivial)))
          go_ret
          exact ⟨ret_b (by simp; try omega), hb0.trans (hx.1.mono hb0.size)⟩
        · have hmin : min (65536 : Int) 65537 = 65536 := by omega
          have g1' : X ≤ 4097 := by omega
          have g2' : 4095 ≤ Y := by omega
          clear M3 hp hp' h6 hz hz2 k3 k4 k6 q1 q2 b1 b2 g1 g2
          go_wp2_with fail
          (go_at_call 37; (with_reducible refine (M1 _).mono ?_); rintro e x1 ⟨rfl, hb⟩; replace hx := (Bx.below hx hb).box (X) (Y) 31; clear hb; (try clear hf hd); (have hf := hx.2.2; simp only [List.forall_mem_cons, List.not_mem_nil, false_imp_iff, implies_true, and_true, Bx1] at hf; first | have hd := bx_apart4 hx | have hd := bx_apart3 hx | have hd := bx_apart2 hx | have hd := trivial))
          go_wp2_with fail
          (have hn : Nonempty (BxW u [(x1.heap.size, X, Y)]) := ⟨⟨_, hx⟩⟩; have hl0 := fun x : BxW u [(x1.heap.size, X, Y)] => x.at0; refine wp_region_bx hx (by kernel_rfl) (by kernel_rfl) ?_; (repeat (first | go_big_quiet_step (((go_at_call 38; first | (with_reducible exact Calls.heldB (S1 _)) | (with_reducible exact Calls.heldB_same (S1 _))))) | quiet_step (fail))); refine wpQuiet_nil ?_; clear hx; intro _ hx; clear hn hl0)
          clear hf hd
          (have hf := hx.2.2; simp only [List.forall_mem_cons, List.not_mem_nil, false_imp_iff, implies_true, and_true, Bx1] at hf; first | have hd := bx_apart4 hx | have hd := bx_apart3 hx | have hd := bx_apart2 hx | have hd := trivial)
          go_wp2_with (first | (go_at_call 37; (with_reducible refine (M2 _).mono ?_); rintro e x2 ⟨rfl, hb⟩; replace hx := (Bx.below hx hb).box (p) (q) 31; clear hb; (try clear hf hd); (have hf := hx.2.2; simp only [List.forall_mem_cons, List.not_mem_nil, false_imp_iff, implies_true, and_true, Bx1] at hf; first | have hd := bx_apart4 hx | have hd := bx_apart3 hx | have hd := bx_apart2 hx | have hd := trivial)) | (go_at_call 39; (with_reducible refine (spanValid_yes _ _ _ V.out).mono ?_); rintro e w1 ⟨rfl, hb⟩; replace hx := Bx.below hx hb; clear hb; (try clear hf hd); (have hf := hx.2.2; simp only [List.forall_mem_cons, List.not_mem_nil, false_imp_iff, implies_true, and_true, Bx1] at hf; first | have hd := bx_apart4 hx | have hd := bx_apart3 hx | have hd := bx_apart2 hx | have hd := trivial)))
          go_ret
          exact ⟨ret_b (by simp; try omega), hb0.trans (hx.1.mono hb0.size)⟩
    · obtain ⟨rfl, rfl⟩ := hN hk
      have hc : k < 2 ∨ 2 ≤ k ∧ 65536 < k := by omega
      clear hN hK hk
      go_wp2_with fail
      (go_at_call 37; (with_reducible refine (M1 _).mono ?_); rintro e x1 ⟨rfl, hb⟩; replace hx := (Bx.below hx hb).box (0) (0) 31; clear hb; (try clear hf hd); (have hf := hx.2.2; simp only [List.forall_mem_cons, List.not_mem_nil, false_imp_iff, implies_true, and_true, Bx1] at hf; first | have hd := bx_apart4 hx | have hd := bx_apart3 hx | have hd := bx_apart2 hx | have hd := trivial))
      go_wp2_with fail
      (have hn : Nonempty (BxW u [(x1.heap.size, 0, 0)]) := ⟨⟨_, hx⟩⟩; have hl0 := fun x : BxW u [(x1.heap.size, 0, 0)] => x.at0; refine wp_region_bx hx (by kernel_rfl) (by kernel_rfl) ?_; (repeat (first | go_big_quiet_step (((go_at_call 38; first | (with_reducible exact Calls.heldB (S1 _)) | (with_reducible exact Calls.heldB_same (S1 _))))) | quiet_step (fail))); refine wpQuiet_nil ?_; clear hx; intro _ hx; clear hn hl0)
      clear hf hd
      (have hf := hx.2.2; simp only [List.forall_mem_cons, List.not_mem_nil, false_imp_iff, implies_true, and_true, Bx1] at hf; first | have hd := bx_apart4 hx | have hd := bx_apart3 hx | have hd := bx_apart2 hx | have hd := trivial)
      rcases hc with hc | hc
      all_goals
        go_wp2_with (go_at_call 28; (with_reducible refine (alive_b _).mono ?_); rintro e w1 ⟨rfl, hb⟩; replace hx := Bx.below hx hb; clear hb; (try clear hf hd); (have hf := hx.2.2; simp only [List.forall_mem_cons, List.not_mem_nil, false_imp_iff, implies_true, and_true, Bx1] at hf; first | have hd := bx_apart4 hx | have hd := bx_apart3 hx | have hd := bx_apart2 hx | have hd := trivial))
        go_ret
        exact ⟨rfl, hb0.trans (hx.1.mono hb0.size)⟩

/-! The frame: after the kit's own shell (proof-skeleton). -/
theorem own : ownKnob Try.prog.godebug = none := by kernel_rfl
theorem laidOut : laidOutB Try.prog = true := by kernel_rfl

set_option linter.unusedVariables false in
set_option maxRecDepth 100000 in
theorem lifted (os : Os) (started : os.Started) (H : Type) (enc : TypeId × Value → H) :
    ReturnsInHanded {} Try.checked os 6 .any (Rows.fnArcSpanSpec.pre6 enc Try.prog Try.f6 Rows.fnArcSpanRow.domain false) (Rows.fnArcSpanSpec.post enc Try.prog Try.f6 false true false false) := by
  refine returnsInHanded_of_change (C := Try.checked) own started (by kernel_rfl) Try.func6
    (ChangeSpec.witness6 (enc := enc) (C := Try.checked) false ⟨#[], #[.slice none 0 0], []⟩ 8 (by kernel_rfl) (by kernel_rfl) (by kernel_rfl) (by kernel_rfl)) ?_
  intro W base args ds gs before hval0 hW hcnd _
  have hval : ∀ (j : Nat) t v, Try.f6.params[j]? = some t → args[j]? = some v → Value.okWide Try.prog W .any base t v := hval0
  have hW' := hW
  obtain ⟨p, q, hA0, hV, rfl, hfz, hnd⟩ := hW
  have hA : DataW.TrodAll enc Try.prog W 0 (fun _ => true) true Try.f6.params.toList args.toList ds p := hA0
  rw [Try.params6] at hA hval
  obtain ⟨v0, vs0, d0, ds0, p0, q0, hargs, rfl, rfl, h0, r0⟩ := trodAll_cons hA
  obtain ⟨rfl, rfl, rfl⟩ := trodAll_nil r0
  obtain rfl : args = #[v0] := by cases args; simp_all
  obtain ⟨rfl, rfl⟩ := trodVars_none hV
  have k0 := h0
  have lt0 : ∀ x ∈ p0, x.block < W.heap.size := by obtain ⟨m, hm⟩ := k0; exact DataW.trod_lt m _ _ _ hm
  obtain ⟨a0, len0, cap0, rfl⟩ := okWide_slice Try.underlying22 (hval 0 22 v0 rfl rfl)
  obtain ⟨z0, w0⟩ : ∃ zs, Row8 W W.heap.size a0 len0 cap0 zs := by
    obtain ⟨fuel, hf⟩ := h0
    rcases open_ints Try.underlying22 Try.underlying5 (by kernel_rfl) hf with ⟨hcs, _⟩ | ⟨x, l, c, zs, hcs, _, hl, hm, hz, _, hcell, hwz⟩
    · simp [Value.cells] at hcs
      obtain ⟨rfl, rfl, rfl⟩ := hcs
      exact ⟨fun _ => 0, Row8.nil W _⟩
    · simp [Value.cells] at hcs
      obtain ⟨rfl, rfl, rfl⟩ := hcs
      exact ⟨_, Row8.of_ints hl hm (by simpa using hz) hcell hwz⟩
  clear hA0 hval0
  refine (walk a0 len0 cap0 z0 W w0).mono fun e W' ⟨he, bel⟩ => ?_
  subst he
  exact ⟨_, rfl, _, _, _, [], _, [], hW', trodAll_mk1 (shut_bool Try.underlying4 _), (trodAll_cons_mk (Below.trod laidOut (by kernel_rfl) (of_decide_eq_true (by kernel_rfl)) k0 bel lt0) trodAll_mk0), rfl, bel.frame _, fun h => by cases h⟩

set_option maxRecDepth 100000 in
theorem closed : joinedFacts Try.prog 6 Try.f6 Rows.fnArcSpanSpec Rows.fnArcSpanRow = true := by
  unfold joinedFacts
  rw [mayEnter_ok, liftsFinal_ok, make_ok]
  kernel_rfl

theorem over : Rows.fnArcSpanRow.holds Try.pinned (OpenSpec.ofChange Rows.fnArcSpanSpec) :=
  OpenClaim.holds_of_wide 6 Try.f6 rfl rfl rfl rfl rfl rfl rfl ⟨rfl, rfl, rfl, rfl, rfl⟩ rfl rfl rfl rfl rfl (by kernel_rfl) Try.func6 closed
    (of_decide_eq_true (by kernel_rfl)) (by unfold Func.isWrapper; first | (rw [if_pos (by decide +kernel)]; kernel_rfl) | (rw [if_neg (by decide +kernel)]; exact ⟨rfl, rfl⟩))
    (fun os started H enc _ => lifted os started H enc)

/-- The statement. -/
theorem proved : Rows.FnArcSpanSaid := over
#print axioms proved

end Go.Proofs.Ytmjmafgjejphbaa.fnArcSpan
