/- Powers of 2 grow: FnTwoPower returns true for every code, and reads it alone. No condition. -/
import Derived.Test.YtfllhncilfkamaaLawPower
import Derived.Test.YtfllhncilfkamaaDrawRoots
import Derived.ShutString
import Derived.ChangeOld
namespace Go.Proofs.Ytfllhncilfkamaa.fnTwoPower
open Go.ChangeShapes Go.WideShapes Go.ChangeAt Go.RowKit

set_option maxHeartbeats 8000000 in
theorem walk (a : Option Addr) (len cap : Nat) (zs : Nat → Int) (w : World) (h : Row8 w w.heap.size a len cap zs) :
    Calls Try.prog 15 #[.slice a len cap] w fun e w' => e = .returned (.bool true) ∧ Below w.heap.size w w' := by
  have hl : len ≤ 9223372036854775807 := Nat.le_trans h.1 h.2.1
  have H := Lib.hid h
  clear h
  by_cases hlen : 1048576 < len
  · go_enter Try.func15, Try.ntmps15
    go_wp2
    go_ret
    exact ⟨rfl, Below.refl _ _⟩
  · go_enter Try.func15, Try.ntmps15
    go_wp2_with fail
    refine (drawTwoPower_any _ _ _ _ _ H.out).mono ?_
    rintro e u ⟨x, rfl, hb0⟩
    clear H
    have hx := Bx.nil u
    obtain ⟨X, Y, M1, S1, hN, h0, hK, -⟩ := two_pack x
    by_cases hk : 0 ≤ x ∧ x ≤ 65535
    · by_cases hz : x = 0
      · obtain ⟨rfl, rfl⟩ := h0 hz
        clear h0 hK hN hk
        subst hz
        go_wp2_with fail
        (go_at_call 43; (with_reducible refine (M1 _).mono ?_); rintro e y1 ⟨rfl, hb⟩; replace hx := (Bx.below hx hb).box (268435456) (268435456) 24; clear hb; (try clear hf hd); (have hf := hx.2.2; simp only [List.forall_mem_cons, List.not_mem_nil, false_imp_iff, implies_true, and_true, Bx1] at hf; first | have hd := bx_apart4 hx | have hd := bx_apart3 hx | have hd := bx_apart2 hx | have hd := trivial))
        go_wp2_with fail
        (have hn : Nonempty (BxW u [(y1.heap.size, 268435456, 268435456)]) := ⟨⟨_, hx⟩⟩; have hl0 := fun x : BxW u [(y1.heap.size, 268435456, 268435456)] => x.at0; refine wp_region_bx hx (by kernel_rfl) (by kernel_rfl) ?_; (repeat (first | go_big_quiet_step (((go_at_call 42; first | (with_reducible exact Calls.heldB (S1 _)) | (with_reducible exact Calls.heldB_same (S1 _))))) | quiet_step (fail))); refine wpQuiet_nil ?_; clear hx; intro _ hx; clear hn hl0)
        clear hf hd
        (have hf := hx.2.2; simp only [List.forall_mem_cons, List.not_mem_nil, false_imp_iff, implies_true, and_true, Bx1] at hf; first | have hd := bx_apart4 hx | have hd := bx_apart3 hx | have hd := bx_apart2 hx | have hd := trivial)
        go_wp2
        go_ret
        exact ⟨rfl, hb0.trans (hx.1.mono hb0.size)⟩
      · obtain ⟨⟨v1, g1, g2⟩, ⟨p, q, r, s, M2, M3, v2, r1, r2⟩, p', q', M4, hnext⟩ := hK (by omega)
        have hz2 : (x == 0) = false := by simpa using hz
        have V1 := Lib.hid v1
        have W1 : (-1073741824 ≤ X ∧ X ≤ 1073741824) ∧ (-1073741824 ≤ Y ∧ Y ≤ 1073741824) ∧ X ≤ Y := v1
        have hw := IntWalk.i64_in (65536 - x) (by omega)
        have hlow := fun w => low_run p' q' w
        have HAS := fun w => spanHas_yes r s 536870912 w v2 ⟨r1, r2⟩
        clear h0 hK hN v1 v2 r1 r2
        go_wp2_with fail
        (go_at_call 43; (with_reducible refine (M1 _).mono ?_); rintro e y1 ⟨rfl, hb⟩; replace hx := (Bx.below hx hb).box (X) (Y) 24; clear hb; (try clear hf hd); (have hf := hx.2.2; simp only [List.forall_mem_cons, List.not_mem_nil, false_imp_iff, implies_true, and_true, Bx1] at hf; first | have hd := bx_apart4 hx | have hd := bx_apart3 hx | have hd := bx_apart2 hx | have hd := trivial))
        go_wp2_with fail
        (have hn : Nonempty (BxW u [(y1.heap.size, X, Y)]) := ⟨⟨_, hx⟩⟩; have hl0 := fun x : BxW u [(y1.heap.size, X, Y)] => x.at0; refine wp_region_bx hx (by kernel_rfl) (by kernel_rfl) ?_; (repeat (first | go_big_quiet_step (((go_at_call 42; first | (with_reducible exact Calls.heldB (S1 _)) | (with_reducible exact Calls.heldB_same (S1 _))))) | quiet_step (fail))); refine wpQuiet_nil ?_; clear hx; intro _ hx; clear hn hl0)
        clear hf hd
        (have hf := hx.2.2; simp only [List.forall_mem_cons, List.not_mem_nil, false_imp_iff, implies_true, and_true, Bx1] at hf; first | have hd := bx_apart4 hx | have hd := bx_apart3 hx | have hd := bx_apart2 hx | have hd := trivial)
        go_upto_region 11 with fail
        go_cut [5, 6] (fun c k wx => ∃ b, c = .pointer (some ⟨b, 0, none⟩) ∧ k = .bool true ∧ Bx u [(b, r, s), (y1.heap.size, X, Y)] wx)
        case first =>
          go_region_with (first | (go_at_call 43; (with_reducible refine (M2 _).mono ?_); rintro e w1 ⟨rfl, hb⟩; (first | replace hx := Bx.below hx hb | replace hx := Bx.below hx.drew hb | replace hx := Bx.below (hx.box 0 0 24) hb | replace hx := Bx.below (hx.boxDrew 0 0 24) hb); clear hb; (try clear hf hd); (have hf := hx.2.2; simp only [List.forall_mem_cons, List.not_mem_nil, false_imp_iff, implies_true, and_true, Bx1] at hf; first | have hd := bx_apart4 hx | have hd := bx_apart3 hx | have hd := bx_apart2 hx | have hd := trivial)) | (go_at_call 21; (with_reducible refine (M3 _).mono ?_); rintro e w1 ⟨rfl, hb⟩; (first | replace hx := Bx.below hx hb | replace hx := Bx.below hx.drew hb | replace hx := Bx.below (hx.box 0 0 24) hb | replace hx := Bx.below (hx.boxDrew 0 0 24) hb); clear hb; (try clear hf hd); (have hf := hx.2.2; simp only [List.forall_mem_cons, List.not_mem_nil, false_imp_iff, implies_true, and_true, Bx1] at hf; first | have hd := bx_apart4 hx | have hd := bx_apart3 hx | have hd := bx_apart2 hx | have hd := trivial)))
          all_goals
            go_wp2_with fail
            go_meet
          all_goals first
            | exact ⟨_, rfl, rfl, hx.box _ _ _⟩
            | exact ⟨_, rfl, rfl, hx.set0 _ _⟩
        case rest =>
          clear hx hf hd
          obtain ⟨b, rfl, rfl, hx⟩ := hcut
          (have hf := hx.2.2; simp only [List.forall_mem_cons, List.not_mem_nil, false_imp_iff, implies_true, and_true, Bx1] at hf; first | have hd := bx_apart4 hx | have hd := bx_apart3 hx | have hd := bx_apart2 hx | have hd := trivial)
          by_cases h5 : x = 65535
          · subst h5
            go_wp2_with fail
            (have hn : Nonempty (BxW u [(b, r, s), (y1.heap.size, X, Y)]) := ⟨⟨_, hx⟩⟩; have hl0 := fun x : BxW u [(b, r, s), (y1.heap.size, X, Y)] => x.at0; have hl1 := fun x : BxW u [(b, r, s), (y1.heap.size, X, Y)] => x.at1; refine wp_region_bx hx (by kernel_rfl) (by kernel_rfl) ?_; (repeat (first | go_big_quiet_step ((first | (go_at_call 32; first | (with_reducible exact Calls.heldB (spanValid_yes _ _ _ V1.out)) | (with_reducible exact Calls.heldB_same (spanValid_yes _ _ _ V1.out))) | (go_at_call 28; first | (with_reducible exact Calls.heldB (HAS _)) | (with_reducible exact Calls.heldB_same (HAS _))) | (go_at_call 43; first | (with_reducible exact Calls.heldB (M4 _)) | (with_reducible exact Calls.heldB_same (M4 _))))) | quiet_step (fail))); refine wpQuiet_nil ?_; clear hx; intro _ hx; clear hn hl0 hl1)
            clear hf hd
            (have hf := hx.2.2; simp only [List.forall_mem_cons, List.not_mem_nil, false_imp_iff, implies_true, and_true, Bx1] at hf; first | have hd := bx_apart4 hx | have hd := bx_apart3 hx | have hd := bx_apart2 hx | have hd := trivial)
            go_wp2
            go_ret
            exact ⟨rfl, hb0.trans (hx.1.mono hb0.size)⟩
          · have h6 : (x == 65535) = false := by simpa using h5
            have h7 := hnext h5
            clear hnext h5
            go_wp2_with fail
            (have hn : Nonempty (BxW u [(b, r, s), (y1.heap.size, X, Y)]) := ⟨⟨_, hx⟩⟩; have hl0 := fun x : BxW u [(b, r, s), (y1.heap.size, X, Y)] => x.at0; have hl1 := fun x : BxW u [(b, r, s), (y1.heap.size, X, Y)] => x.at1; refine wp_region_bx hx (by kernel_rfl) (by kernel_rfl) ?_; (repeat (first | go_big_quiet_step ((first | (go_at_call 32; first | (with_reducible exact Calls.heldB (spanValid_yes _ _ _ V1.out)) | (with_reducible exact Calls.heldB_same (spanValid_yes _ _ _ V1.out))) | (go_at_call 28; first | (with_reducible exact Calls.heldB (HAS _)) | (with_reducible exact Calls.heldB_same (HAS _))) | (go_at_call 43; first | (with_reducible exact Calls.heldB (M4 _)) | (with_reducible exact Calls.heldB_same (M4 _))))) | quiet_step (fail))); refine wpQuiet_nil ?_; clear hx; intro _ hx; clear hn hl0 hl1)
            clear hf hd
            (have hf := hx.2.2; simp only [List.forall_mem_cons, List.not_mem_nil, false_imp_iff, implies_true, and_true, Bx1] at hf; first | have hd := bx_apart4 hx | have hd := bx_apart3 hx | have hd := bx_apart2 hx | have hd := trivial)
            go_wp2
            go_ret
            exact ⟨rfl, hb0.trans (hx.1.mono hb0.size)⟩
    · obtain ⟨rfl, rfl⟩ := hN hk
      have hc : x < 0 ∨ 0 ≤ x ∧ 65535 < x := by omega
      clear hN h0 hK hk
      go_wp2_with fail
      (go_at_call 43; (with_reducible refine (M1 _).mono ?_); rintro e y1 ⟨rfl, hb⟩; replace hx := (Bx.below hx hb).box (0) (0) 24; clear hb; (try clear hf hd); (have hf := hx.2.2; simp only [List.forall_mem_cons, List.not_mem_nil, false_imp_iff, implies_true, and_true, Bx1] at hf; first | have hd := bx_apart4 hx | have hd := bx_apart3 hx | have hd := bx_apart2 hx | have hd := trivial))
      go_wp2_with fail
      (have hn : Nonempty (BxW u [(y1.heap.size, 0, 0)]) := ⟨⟨_, hx⟩⟩; have hl0 := fun x : BxW u [(y1.heap.size, 0, 0)] => x.at0; refine wp_region_bx hx (by kernel_rfl) (by kernel_rfl) ?_; (repeat (first | go_big_quiet_step (((go_at_call 42; first | (with_reducible exact Calls.heldB (S1 _)) | (with_reducible exact Calls.heldB_same (S1 _))))) | quiet_step (fail))); refine wpQuiet_nil ?_; clear hx; intro _ hx; clear hn hl0)
      clear hf hd
      (have hf := hx.2.2; simp only [List.forall_mem_cons, List.not_mem_nil, false_imp_iff, implies_true, and_true, Bx1] at hf; first | have hd := bx_apart4 hx | have hd := bx_apart3 hx | have hd := bx_apart2 hx | have hd := trivial)
      rcases hc with hc | hc
      all_goals
        go_wp2_with (go_at_call 27; (with_reducible refine (alive_b _).mono ?_); rintro e w1 ⟨rfl, hb⟩; replace hx := Bx.below hx hb; clear hb; (try clear hf hd); (have hf := hx.2.2; simp only [List.forall_mem_cons, List.not_mem_nil, false_imp_iff, implies_true, and_true, Bx1] at hf; first | have hd := bx_apart4 hx | have hd := bx_apart3 hx | have hd := bx_apart2 hx | have hd := trivial))
        go_ret
        exact ⟨rfl, hb0.trans (hx.1.mono hb0.size)⟩

/-! The frame: after the kit's own shell (proof-skeleton). -/
theorem own : ownKnob Try.prog.godebug = none := by kernel_rfl
theorem laidOut : laidOutB Try.prog = true := by kernel_rfl

set_option linter.unusedVariables false in
set_option maxRecDepth 100000 in
theorem lifted (os : Os) (started : os.Started) (H : Type) (enc : TypeId × Value → H) :
    ReturnsInHanded {} Try.checked os 15 .any (Rows.fnTwoPowerSpec.pre6 enc Try.prog Try.f15 Rows.fnTwoPowerRow.domain false) (Rows.fnTwoPowerSpec.post enc Try.prog Try.f15 false true false false) := by
  refine returnsInHanded_of_change (C := Try.checked) own started (by kernel_rfl) Try.func15
    (ChangeSpec.witness6 (enc := enc) (C := Try.checked) false ⟨#[], #[.slice none 0 0], []⟩ 8 (by kernel_rfl) (by kernel_rfl) (by kernel_rfl) (by kernel_rfl)) ?_
  intro W base args ds gs before hval0 hW hcnd _
  have hval : ∀ (j : Nat) t v, Try.f15.params[j]? = some t → args[j]? = some v → Value.okWide Try.prog W .any base t v := hval0
  have hW' := hW
  obtain ⟨p, q, hA0, hV, rfl, hfz, hnd⟩ := hW
  have hA : DataW.TrodAll enc Try.prog W 0 (fun _ => true) true Try.f15.params.toList args.toList ds p := hA0
  rw [Try.params15] at hA hval
  obtain ⟨v0, vs0, d0, ds0, p0, q0, hargs, rfl, rfl, h0, r0⟩ := trodAll_cons hA
  obtain ⟨rfl, rfl, rfl⟩ := trodAll_nil r0
  obtain rfl : args = #[v0] := by cases args; simp_all
  obtain ⟨rfl, rfl⟩ := trodVars_none hV
  have k0 := h0
  have lt0 : ∀ x ∈ p0, x.block < W.heap.size := by obtain ⟨m, hm⟩ := k0; exact DataW.trod_lt m _ _ _ hm
  obtain ⟨a0, len0, cap0, rfl⟩ := okWide_slice Try.underlying30 (hval 0 30 v0 rfl rfl)
  obtain ⟨z0, w0⟩ : ∃ zs, Row8 W W.heap.size a0 len0 cap0 zs := by
    obtain ⟨fuel, hf⟩ := h0
    rcases open_ints Try.underlying30 Try.underlying5 (by kernel_rfl) hf with ⟨hcs, _⟩ | ⟨x, l, c, zs, hcs, _, hl, hm, hz, _, hcell, hwz⟩
    · simp [Value.cells] at hcs
      obtain ⟨rfl, rfl, rfl⟩ := hcs
      exact ⟨fun _ => 0, Row8.nil W _⟩
    · simp [Value.cells] at hcs
      obtain ⟨rfl, rfl, rfl⟩ := hcs
      exact ⟨_, Row8.of_ints hl hm (by simpa using hz) hcell hwz⟩
  clear hA0 hval0
  refine (walk a0 len0 cap0 z0 W w0).mono fun e W' ⟨he, bel⟩ => ?_
  subst he
  exact ⟨_, rfl, _, _, _, [], _, [], hW', trodAll_mk1 (shut_bool Try.underlying4 _), (trodAll_cons_mk (Below.trod laidOut (by kernel_rfl) (of_decide_eq_true (by kernel_rfl)) k0 bel lt0) trodAll_mk0), rfl, bel.frame _, fun h => by cases h⟩

set_option maxRecDepth 100000 in
theorem closed : joinedFacts Try.prog 15 Try.f15 Rows.fnTwoPowerSpec Rows.fnTwoPowerRow = true := by
  unfold joinedFacts
  rw [mayEnter_ok, liftsFinal_ok, make_ok]
  kernel_rfl

theorem over : Rows.fnTwoPowerRow.holds Try.pinned (OpenSpec.ofChange Rows.fnTwoPowerSpec) :=
  OpenClaim.holds_of_wide 15 Try.f15 rfl rfl rfl rfl rfl rfl rfl ⟨rfl, rfl, rfl, rfl, rfl⟩ rfl rfl rfl rfl rfl (by kernel_rfl) Try.func15 closed
    (of_decide_eq_true (by kernel_rfl)) (by unfold Func.isWrapper; first | (rw [if_pos (by decide +kernel)]; kernel_rfl) | (rw [if_neg (by decide +kernel)]; exact ⟨rfl, rfl⟩))
    (fun os started H enc _ => lifted os started H enc)

/-- The statement. -/
theorem proved : Rows.FnTwoPowerSaid := over
#print axioms proved

end Go.Proofs.Ytfllhncilfkamaa.fnTwoPower
