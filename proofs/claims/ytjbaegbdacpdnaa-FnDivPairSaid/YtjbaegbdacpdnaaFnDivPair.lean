/- Quotients rounded down and to the nearest are near: FnDivPair returns true for every code, and reads it alone. No condition. -/
import Derived.Test.YtjbaegbdacpdnaaInt
import Derived.Test.YtjbaegbdacpdnaaDraw
import Derived.Test.YtjbaegbdacpdnaaHead
import Derived.Test.YtjbaegbdacpdnaaDrawDiv
import Derived.ShutString
import Derived.ChangeOld
import Derived.Deep.QuietTactic
import Derived.BigQuiet
namespace Go.Proofs.Ytjbaegbdacpdnaa.fnDivPair
open Go.ChangeShapes Go.WideShapes Go.ChangeAt Go.RowKit

theorem law (x b : Int) (h : -1152921504606846976 ≤ x ∧ x ≤ 1152921504606846976) (hb : 1 ≤ b ∧ b ≤ 1152921504606846976) :
    (-1152921504606846976 ≤ Fx.floorDiv x b ∧ Fx.floorDiv x b ≤ 1152921504606846976) ∧ (Fx.roundDiv x b = Fx.floorDiv x b ∨ Fx.roundDiv x b = Fx.floorDiv x b + 1) ∧ (Fx.floorDiv (-x) b = -Fx.floorDiv x b ↔ x.tmod b = 0) := by
  have e1 := Fx.roundDiv_in x b h hb.1 hb.2
  have e2 := Fx.floorDiv_in x b h hb.1 hb.2
  have e3 := Fx.floorDiv_in (-x) b (Fx.work_neg h) hb.1 hb.2
  refine ⟨Fx.floorDiv_bounds x b, by rw [e1, e2]; exact Fx.rnd_floor x b, ?_⟩
  rw [e2, e3, Fx.tmod_zero]
  have f1 := Int.emod_add_mul_ediv x b
  have f2 := Int.emod_add_mul_ediv (-x) b
  have l0 := Int.emod_nonneg x (show b ≠ 0 by omega)
  have l1 := Int.emod_lt_of_pos x (show 0 < b by omega)
  have l2 := Int.emod_nonneg (-x) (show b ≠ 0 by omega)
  have l3 := Int.emod_lt_of_pos (-x) (show 0 < b by omega)
  constructor
  · intro hh
    rw [hh, Int.mul_neg] at f2
    omega
  · intro hh
    have hx : x = b * (x / b) := by omega
    rw [hx, ← Int.mul_neg, Int.mul_ediv_cancel_left _ (by omega), Int.mul_ediv_cancel_left _ (by omega)]

theorem quiet_left {P : Program} {f : FuncId} {args : Array Value} {w : World} {n : Nat} {v : Value}
    (h : Calls P f args (w.drewN n) fun e w' => e = .returned v ∧ w.drewN n = w') : Calls P f args (w.drewN n) fun e w'' => e = .returned v ∧ ∃ m, w'' = w.drewN m :=
  h.mono fun _ _ ⟨he, hm⟩ => ⟨he, n, hm.symm⟩

set_option maxHeartbeats 1000000 in
theorem walk (a : Option Addr) (len cap : Nat) (zs : Nat → Int) (w : World) (h : Row8 w w.heap.size a len cap zs) :
    Calls Try.prog 9 #[.slice a len cap] w fun e w' => e = .returned (.bool true) ∧ Below w.heap.size w w' := by
  have hl : len ≤ 9223372036854775807 := Nat.le_trans h.1 h.2.1
  have H := Lib.hid h
  clear h
  by_cases hlen : 1048576 < len
  · go_enter Try.func9, Try.ntmps9
    go_wp2
    go_ret
    exact ⟨rfl, Below.refl _ _⟩
  · go_enter Try.func9, Try.ntmps9
    go_wp2_with fail
    refine (drawFloorDiv_any _ _ _ _ _ H.out).mono ?_
    rintro e w1 ⟨x, b, rfl, hb⟩
    by_cases hv : (-1152921504606846976 ≤ x ∧ x ≤ 1152921504606846976) ∧ 1 ≤ b ∧ b ≤ 1152921504606846976
    · obtain ⟨l1, l2, l3⟩ := law x b hv.1 hv.2
      go_wp2_with (first | (go_at_call 37; refine (floorDiv_any _ _ _).mono ?_; rintro e w' ⟨rfl, rfl⟩) | (go_at_call 39; refine (s_floorDiv_any _ _ _).mono ?_; rintro e w' ⟨rfl, rfl⟩) | (go_at_call 40; refine (roundDiv_any _ _ _).mono ?_; rintro e w' ⟨rfl, rfl⟩) | (go_at_call 25; refine (work_yes _ _ ?_).mono ?_; (omega); rintro e w' ⟨rfl, rfl⟩) | (go_at_call 25; refine (work_no _ _ ?_).mono ?_; (omega); rintro e w' ⟨rfl, rfl⟩) | (go_at_call 26; refine (alive_any _).mono ?_; rintro e w' ⟨rfl, rfl⟩))
      have ew : IntKind.i64.wrap (-x) = -x := IntWalk.i64_in _ ⟨by omega, by omega⟩
      have ef : IntKind.i64.wrap (-Fx.floorDiv x b) = -Fx.floorDiv x b := IntWalk.i64_in _ ⟨by omega, by omega⟩
      have eg : IntKind.i64.wrap (Fx.floorDiv x b + 1) = Fx.floorDiv x b + 1 := IntWalk.i64_in _ ⟨by omega, by omega⟩
      have ed : ((Fx.floorDiv (-x) b == -Fx.floorDiv x b) == (x.tmod b == 0)) = true := by
        rw [beq_iff_eq, Bool.eq_iff_iff]
        simp only [beq_iff_eq]
        exact l3
      generalize Fx.floorDiv x b = F at *
      generalize Fx.roundDiv x b = R at *
      rcases l2 with rfl | rfl
      · have et : decide (R = R) = true := by simp
        go_quiet (first | (go_at_call 37; exact quiet_left (floorDiv_any _ _ _)))
        go_wp2
        go_ret
        refine ⟨rfl, ?_⟩
        first | exact hb | exact hb.trans ⟨rfl, rfl, rfl, Nat.le_refl _, fun _ _ => rfl⟩
      · have et : (F + 1 == F) = false := by simp; omega
        go_quiet (first | (go_at_call 37; exact quiet_left (floorDiv_any _ _ _)))
        go_wp2
        go_ret
        refine ⟨rfl, ?_⟩
        first | exact hb | exact hb.trans ⟨rfl, rfl, rfl, Nat.le_refl _, fun _ _ => rfl⟩
    · have e0 : Fx.floorDiv x b = 0 := by rw [Fx.floorDiv, if_neg (by unfold Fx.Work; omega)]
      by_cases hx : -1152921504606846976 ≤ x ∧ x ≤ 1152921504606846976
      · have hk' : b < 1 ∨ 1152921504606846976 < b := by omega
        clear hv
        go_wp2_with (first | (go_at_call 37; refine (floorDiv_any _ _ _).mono ?_; rintro e w' ⟨rfl, rfl⟩) | (go_at_call 39; refine (s_floorDiv_any _ _ _).mono ?_; rintro e w' ⟨rfl, rfl⟩) | (go_at_call 25; refine (work_yes _ _ ?_).mono ?_; (omega); rintro e w' ⟨rfl, rfl⟩) | (go_at_call 25; refine (work_no _ _ ?_).mono ?_; (omega); rintro e w' ⟨rfl, rfl⟩) | (go_at_call 26; refine (alive_any _).mono ?_; rintro e w' ⟨rfl, rfl⟩))
        all_goals go_ret
        all_goals exact ⟨rfl, hb⟩
      · clear hv
        go_wp2_with (first | (go_at_call 37; refine (floorDiv_any _ _ _).mono ?_; rintro e w' ⟨rfl, rfl⟩) | (go_at_call 39; refine (s_floorDiv_any _ _ _).mono ?_; rintro e w' ⟨rfl, rfl⟩) | (go_at_call 25; refine (work_yes _ _ ?_).mono ?_; (omega); rintro e w' ⟨rfl, rfl⟩) | (go_at_call 25; refine (work_no _ _ ?_).mono ?_; (omega); rintro e w' ⟨rfl, rfl⟩) | (go_at_call 26; refine (alive_any _).mono ?_; rintro e w' ⟨rfl, rfl⟩))
        go_ret
        exact ⟨rfl, hb⟩

/-! The frame: after the kit's own shell (proof-skeleton). -/
theorem own : ownKnob Try.prog.godebug = none := by kernel_rfl
theorem laidOut : laidOutB Try.prog = true := by kernel_rfl

set_option linter.unusedVariables false in
set_option maxRecDepth 100000 in
theorem lifted (os : Os) (started : os.Started) (H : Type) (enc : TypeId × Value → H) :
    ReturnsInHanded {} Try.checked os 9 .any (Rows.fnDivPairSpec.pre6 enc Try.prog Try.f9 Rows.fnDivPairRow.domain false) (Rows.fnDivPairSpec.post enc Try.prog Try.f9 false true false false) := by
  refine returnsInHanded_of_change (C := Try.checked) own started (by kernel_rfl) Try.func9
    (ChangeSpec.witness6 (enc := enc) (C := Try.checked) false ⟨#[], #[.slice none 0 0], []⟩ 8 (by kernel_rfl) (by kernel_rfl) (by kernel_rfl) (by kernel_rfl)) ?_
  intro W base args ds gs before hval0 hW hcnd _
  have hval : ∀ (j : Nat) t v, Try.f9.params[j]? = some t → args[j]? = some v → Value.okWide Try.prog W .any base t v := hval0
  have hW' := hW
  obtain ⟨p, q, hA0, hV, rfl, hfz, hnd⟩ := hW
  have hA : DataW.TrodAll enc Try.prog W 0 (fun _ => true) true Try.f9.params.toList args.toList ds p := hA0
  rw [Try.params9] at hA hval
  obtain ⟨v0, vs0, d0, ds0, p0, q0, hargs, rfl, rfl, h0, r0⟩ := trodAll_cons hA
  obtain ⟨rfl, rfl, rfl⟩ := trodAll_nil r0
  obtain rfl : args = #[v0] := by cases args; simp_all
  obtain ⟨rfl, rfl⟩ := trodVars_none hV
  have k0 := h0
  have lt0 : ∀ x ∈ p0, x.block < W.heap.size := by obtain ⟨m, hm⟩ := k0; exact DataW.trod_lt m _ _ _ hm
  obtain ⟨a0, len0, cap0, rfl⟩ := okWide_slice Try.underlying22 (hval 0 22 v0 rfl rfl)
  obtain ⟨z0, w0⟩ : ∃ zs, Row8 W W.heap.size a0 len0 cap0 zs := by
    obtain ⟨fuel, hf⟩ := h0
    rcases open_ints Try.underlying22 Try.underlying5 (by kernel_rfl) hf with ⟨hcs, _⟩ | ⟨x, l, c, zs, hcs, _, hl, hm, hz, _, hcell, hwz⟩
    · simp [Value.cells] at hcs
      obtain ⟨rfl, rfl, rfl⟩ := hcs
      exact ⟨fun _ => 0, Row8.nil W _⟩
    · simp [Value.cells] at hcs
      obtain ⟨rfl, rfl, rfl⟩ := hcs
      exact ⟨_, Row8.of_ints hl hm (by simpa using hz) hcell hwz⟩
  clear hA0 hval0
  refine (walk a0 len0 cap0 z0 W w0).mono fun e W' ⟨he, bel⟩ => ?_
  subst he
  exact ⟨_, rfl, _, _, _, [], _, [], hW', trodAll_mk1 (shut_bool Try.underlying4 _), (trodAll_cons_mk (Below.trod laidOut (by kernel_rfl) (of_decide_eq_true (by kernel_rfl)) k0 bel lt0) trodAll_mk0), rfl, bel.frame _, fun h => by cases h⟩

set_option maxRecDepth 100000 in
theorem closed : joinedFacts Try.prog 9 Try.f9 Rows.fnDivPairSpec Rows.fnDivPairRow = true := by
  unfold joinedFacts
  rw [mayEnter_ok, liftsFinal_ok, make_ok]
  kernel_rfl

theorem over : Rows.fnDivPairRow.holds Try.pinned (OpenSpec.ofChange Rows.fnDivPairSpec) :=
  OpenClaim.holds_of_wide 9 Try.f9 rfl rfl rfl rfl rfl rfl rfl ⟨rfl, rfl, rfl, rfl, rfl⟩ rfl rfl rfl rfl rfl (by kernel_rfl) Try.func9 closed
    (of_decide_eq_true (by kernel_rfl)) (by unfold Func.isWrapper; first | (rw [if_pos (by decide +kernel)]; kernel_rfl) | (rw [if_neg (by decide +kernel)]; exact ⟨rfl, rfl⟩))
    (fun os started H enc _ => lifted os started H enc)

/-- The statement. -/
theorem proved : Rows.FnDivPairSaid := over
#print axioms proved

end Go.Proofs.Ytjbaegbdacpdnaa.fnDivPair
