/- The table of angles is that of the angles one by one: FnStepAngles returns true for every code, and reads it alone. No condition. -/
import Derived.Test.YtmjmafgjejphbaaRowInts
import Derived.Test.YtmjmafgjejphbaaDrawOne
import Derived.Test.YtmjmafgjejphbaaLawArc
import Derived.ShutString
import Derived.ChangeOld
namespace Go.Proofs.Ytmjmafgjejphbaa.fnStepAngles
open Go.ChangeShapes Go.WideShapes Go.ChangeAt Go.RowKit

theorem stepAngle_at (k : Nat) (h : k ≤ 20) : Fx.stepAngle k = Fx.stepA k := by
  unfold Fx.stepAngle; rw [if_pos (by omega)]; rfl
set_option maxHeartbeats 8000000 in
theorem walk (a : Option Addr) (len cap : Nat) (zs : Nat → Int) (w : World) (h : Row8 w w.heap.size a len cap zs) :
    Calls Try.prog 18 #[.slice a len cap] w fun e w' => e = .returned (.bool true) ∧ Below w.heap.size w w' := by
  have hl : len ≤ 9223372036854775807 := Nat.le_trans h.1 h.2.1
  have H := Lib.hid h
  clear h
  by_cases hlen : 1048576 < len
  · go_enter Try.func18, Try.ntmps18
    go_wp2
    go_ret
    exact ⟨rfl, Below.refl _ _⟩
  · go_enter Try.func18, Try.ntmps18
    go_wp2_with fail
    refine (drawStepAngles_any _ _ _ _ _ H.out).mono ?_
    rintro e u ⟨n, rfl, hb0⟩
    clear H
    have S := fun w => s_stepAngles_any n w
    have M := fun w => stepAngles_any n w
    by_cases hn : 0 ≤ n ∧ n ≤ 21
    · have e : stepN n = n.toNat := if_pos hn
      rw [e] at S M
      clear e
      obtain ⟨N, rfl⟩ : ∃ N : Nat, n = N := ⟨n.toNat, by omega⟩
      rw [show ((N : Int)).toNat = N by omega] at S M
      have hL : ∀ i, i < N → (stepL N)[i]? = some (.int .i64 (Fx.stepA i)) := fun i hi => stepL_at N i hi
      go_wp2_with fail
      refine (M _).mono ?_
      rintro e w1 ⟨v1, rfl, o1, b1⟩
      obtain ⟨a1, cap1, rfl, l1, r1⟩ := owns_is o1 hL
      clear o1
      go_wp2_with fail
      refine (S _).mono ?_
      rintro e w2 ⟨v2, rfl, o2, b2⟩
      obtain ⟨a2, cap2, rfl, l2, r2⟩ := owns_is o2 hL
      clear o2
      replace r1 := r1.below b2
      replace b1 := b1.trans (b2.mono b1.size)
      go_wp2_with fail
      refine (sameInts_yes a1 a2 N cap1 cap2 Fx.stepA _ (by omega) r1 r2).mono ?_
      rintro e w3 ⟨rfl, b3⟩
      replace r1 := r1.below b3
      replace b1 := b1.trans (b3.mono b1.size)
      clear r2 b2 b3
      go_wp2_with fail
      go_loopw [5] (fun i w' => ∃ k : Nat, k ≤ N ∧ i = .int .i64 k ∧ RowIs w' a1 N Fx.stepA ∧ Below u.heap.size u w') (fun i _ => (N - intOf i).toNat)
      case atStart => exact ⟨0, by omega, rfl, r1, b1⟩
      case round =>
        clear r1 b1
        obtain ⟨k, hk, rfl, r1, b1⟩ := hrel
        by_cases h4 : k < N
        · obtain ⟨g, rfl, hg, c1⟩ := r1 k h4
          have A := fun w => stepAngle_any k w
          rw [stepAngle_at k (by omega)] at A
          go_wp2_with fail
          go_region_with (go_at_call 50; refine (A _).mono ?_; rintro e w4 ⟨rfl, b4⟩; (first | replace r1 := r1.below b4 | replace r1 := RowIs.below (w := World.drew _) r1 b4); (first | replace b1 := b1.trans (b4.mono b1.size) | replace b1 := b1.drew.trans (b4.mono b1.drew.size)); clear b4; have c3 := r1.at rfl k h4)
          all_goals
            go_wp2
            try go_roundw
          all_goals first
            | exact ⟨k + 1, by omega, by go_num, r1, b1⟩
            | (simp [intOf]; omega)
            | exact ⟨⟨k + 1, by omega, by go_num, r1, b1⟩, by simp [intOf]; omega⟩
        · obtain rfl : k = N := by omega
          go_wp2
          go_ret
          exact ⟨rfl, hb0.trans (b1.mono hb0.size)⟩
    · have e : stepN n = 0 := if_neg hn
      rw [e] at S M
      have hL : ∀ i, i < 0 → (stepL 0)[i]? = some (.int .i64 (Fx.stepA i)) := fun i hi => absurd hi (Nat.not_lt_zero _)
      go_wp2_with fail
      refine (M _).mono ?_
      rintro e w1 ⟨v1, rfl, o1, b1⟩
      obtain ⟨a1, cap1, rfl, l1, r1⟩ := owns_is o1 hL
      clear o1
      go_wp2_with fail
      refine (S _).mono ?_
      rintro e w2 ⟨v2, rfl, o2, b2⟩
      obtain ⟨a2, cap2, rfl, l2, r2⟩ := owns_is o2 hL
      clear o2
      replace r1 := r1.below b2
      replace b1 := b1.trans (b2.mono b1.size)
      go_wp2_with fail
      refine (sameInts_yes a1 a2 0 cap1 cap2 Fx.stepA _ (by omega) r1 r2).mono ?_
      rintro e w3 ⟨rfl, b3⟩
      replace b1 := b1.trans (b3.mono b1.size)
      clear r1 r2 b2 b3 e
      have hc : n < 0 ∨ 0 ≤ n ∧ 21 < n := by omega
      rcases hc with hc | hc
      all_goals
        go_wp2_with (go_at_call 28; refine (alive_b _).mono ?_; rintro e w4 ⟨rfl, b4⟩; replace b1 := b1.trans (b4.mono b1.size))
        go_ret
        exact ⟨rfl, hb0.trans (b1.mono hb0.size)⟩

/-! The frame: after the kit's own shell (proof-skeleton). -/
theorem own : ownKnob Try.prog.godebug = none := by kernel_rfl
theorem laidOut : laidOutB Try.prog = true := by kernel_rfl

set_option linter.unusedVariables false in
set_option maxRecDepth 100000 in
theorem lifted (os : Os) (started : os.Started) (H : Type) (enc : TypeId × Value → H) :
    ReturnsInHanded {} Try.checked os 18 .any (Rows.fnStepAnglesSpec.pre6 enc Try.prog Try.f18 Rows.fnStepAnglesRow.domain false) (Rows.fnStepAnglesSpec.post enc Try.prog Try.f18 false true false false) := by
  refine returnsInHanded_of_change (C := Try.checked) own started (by kernel_rfl) Try.func18
    (ChangeSpec.witness6 (enc := enc) (C := Try.checked) false ⟨#[], #[.slice none 0 0], []⟩ 8 (by kernel_rfl) (by kernel_rfl) (by kernel_rfl) (by kernel_rfl)) ?_
  intro W base args ds gs before hval0 hW hcnd _
  have hval : ∀ (j : Nat) t v, Try.f18.params[j]? = some t → args[j]? = some v → Value.okWide Try.prog W .any base t v := hval0
  have hW' := hW
  obtain ⟨p, q, hA0, hV, rfl, hfz, hnd⟩ := hW
  have hA : DataW.TrodAll enc Try.prog W 0 (fun _ => true) true Try.f18.params.toList args.toList ds p := hA0
  rw [Try.params18] at hA hval
  obtain ⟨v0, vs0, d0, ds0, p0, q0, hargs, rfl, rfl, h0, r0⟩ := trodAll_cons hA
  obtain ⟨rfl, rfl, rfl⟩ := trodAll_nil r0
  obtain rfl : args = #[v0] := by cases args; simp_all
  obtain ⟨rfl, rfl⟩ := trodVars_none hV
  have k0 := h0
  have lt0 : ∀ x ∈ p0, x.block < W.heap.size := by obtain ⟨m, hm⟩ := k0; exact DataW.trod_lt m _ _ _ hm
  obtain ⟨a0, len0, cap0, rfl⟩ := okWide_slice Try.underlying22 (hval 0 22 v0 rfl rfl)
  obtain ⟨z0, w0⟩ : ∃ zs, Row8 W W.heap.size a0 len0 cap0 zs := by
    obtain ⟨fuel, hf⟩ := h0
    rcases open_ints Try.underlying22 Try.underlying5 (by kernel_rfl) hf with ⟨hcs, _⟩ | ⟨x, l, c, zs, hcs, _, hl, hm, hz, _, hcell, hwz⟩
    · simp [Value.cells] at hcs
      obtain ⟨rfl, rfl, rfl⟩ := hcs
      exact ⟨fun _ => 0, Row8.nil W _⟩
    · simp [Value.cells] at hcs
      obtain ⟨rfl, rfl, rfl⟩ := hcs
      exact ⟨_, Row8.of_ints hl hm (by simpa using hz) hcell hwz⟩
  clear hA0 hval0
  refine (walk a0 len0 cap0 z0 W w0).mono fun e W' ⟨he, bel⟩ => ?_
  subst he
  exact ⟨_, rfl, _, _, _, [], _, [], hW', trodAll_mk1 (shut_bool Try.underlying4 _), (trodAll_cons_mk (Below.trod laidOut (by kernel_rfl) (of_decide_eq_true (by kernel_rfl)) k0 bel lt0) trodAll_mk0), rfl, bel.frame _, fun h => by cases h⟩

set_option maxRecDepth 100000 in
theorem closed : joinedFacts Try.prog 18 Try.f18 Rows.fnStepAnglesSpec Rows.fnStepAnglesRow = true := by
  unfold joinedFacts
  rw [mayEnter_ok, liftsFinal_ok, make_ok]
  kernel_rfl

theorem over : Rows.fnStepAnglesRow.holds Try.pinned (OpenSpec.ofChange Rows.fnStepAnglesSpec) :=
  OpenClaim.holds_of_wide 18 Try.f18 rfl rfl rfl rfl rfl rfl rfl ⟨rfl, rfl, rfl, rfl, rfl⟩ rfl rfl rfl rfl rfl (by kernel_rfl) Try.func18 closed
    (of_decide_eq_true (by kernel_rfl)) (by unfold Func.isWrapper; first | (rw [if_pos (by decide +kernel)]; kernel_rfl) | (rw [if_neg (by decide +kernel)]; exact ⟨rfl, rfl⟩))
    (fun os started H enc _ => lifted os started H enc)

/-- The statement. -/
theorem proved : Rows.FnStepAnglesSaid := over
#print axioms proved

end Go.Proofs.Ytmjmafgjejphbaa.fnStepAngles
