/- Rounded quotients are nearest: FnRoundDiv returns true for every code, and reads it alone. No condition. -/
import Derived.Test.YtjbaegbdacpdnaaInt
import Derived.Test.YtjbaegbdacpdnaaDraw
import Derived.Test.YtjbaegbdacpdnaaHead
import Derived.Test.YtjbaegbdacpdnaaDrawDiv
import Derived.ShutString
import Derived.ChangeOld
namespace Go.Proofs.Ytjbaegbdacpdnaa.fnRoundDiv
open Go.ChangeShapes Go.WideShapes Go.ChangeAt Go.RowKit

theorem law (x b : Int) (h : -1152921504606846976 ≤ x ∧ x ≤ 1152921504606846976) (hb : 1 ≤ b ∧ b ≤ 1152921504606846976) :
    (-2305843009213693952 ≤ Fx.roundDiv x b * b ∧ Fx.roundDiv x b * b ≤ 2305843009213693952) ∧ (-1152921504606846976 ≤ Fx.roundDiv x b ∧ Fx.roundDiv x b ≤ 1152921504606846976) ∧
    -b ≤ 2 * (x - Fx.roundDiv x b * b) ∧ 2 * (x - Fx.roundDiv x b * b) ≤ b ∧ ((2 * (x - Fx.roundDiv x b * b) = b ∨ 2 * (x - Fx.roundDiv x b * b) = -b) → Fx.roundDiv x b % 2 = 0) ∧ Fx.roundDiv (-x) b = -Fx.roundDiv x b := by
  have e1 := Fx.roundDiv_in x b h hb.1 hb.2
  have e2 := Fx.roundDiv_in (-x) b (Fx.work_neg h) hb.1 hb.2
  obtain ⟨g1, g2, g3⟩ := Fx.rnd_spec x b hb.1
  have q0 : -1152921504606846976 ≤ Fx.rnd x b ∧ Fx.rnd x b ≤ 1152921504606846976 := by
    have m1 := Fx.rnd_mono x 1152921504606846976 b hb.1 h.2
    have m2 := Fx.rnd_mono (-1152921504606846976) x b hb.1 h.1
    have m3 : Fx.rnd 1152921504606846976 b ≤ 1152921504606846976 := by
      apply Int.le_of_not_gt; intro hc
      have s := Fx.rnd_spec 1152921504606846976 b hb.1
      have : 1152921504606846977 * b ≤ Fx.rnd 1152921504606846976 b * b := Int.mul_le_mul_of_nonneg_right (by omega) (by omega)
      omega
    rw [show (-1152921504606846976 : Int) = -(1152921504606846976) from rfl, Fx.rnd_neg _ _ hb.1] at m2
    omega
  rw [e1, e2, Fx.rnd_neg x b hb.1]
  refine ⟨by omega, q0, g1, g2, g3, rfl⟩

set_option maxHeartbeats 1000000 in
theorem walk (a : Option Addr) (len cap : Nat) (zs : Nat → Int) (w : World) (h : Row8 w w.heap.size a len cap zs) :
    Calls Try.prog 12 #[.slice a len cap] w fun e w' => e = .returned (.bool true) ∧ Below w.heap.size w w' := by
  have hl : len ≤ 9223372036854775807 := Nat.le_trans h.1 h.2.1
  have H := Lib.hid h
  clear h
  by_cases hlen : 1048576 < len
  · go_enter Try.func12, Try.ntmps12
    go_wp2
    go_ret
    exact ⟨rfl, Below.refl _ _⟩
  · go_enter Try.func12, Try.ntmps12
    go_wp2_with fail
    refine (drawRoundDiv_any _ _ _ _ _ H.out).mono ?_
    rintro e w1 ⟨x, b, rfl, hb⟩
    by_cases hv : (-1152921504606846976 ≤ x ∧ x ≤ 1152921504606846976) ∧ 1 ≤ b ∧ b ≤ 1152921504606846976
    · obtain ⟨l1, l2, l3, l4, l5, l6⟩ := law x b hv.1 hv.2
      have hq : (2 * (x - Fx.roundDiv x b * b) = b ∨ 2 * (x - Fx.roundDiv x b * b) = -b) → (Fx.roundDiv x b).tmod 2 = 0 := fun h => (Fx.tmod_zero _ 2).2 (l5 h)
      clear l5
      by_cases hs : x - Fx.roundDiv x b * b < Fx.roundDiv x b * b - x
      · by_cases ht : 2 * (Fx.roundDiv x b * b - x) < b
        · clear hq
          go_wp2_with (first | (go_at_call 40; refine (roundDiv_any _ _ _).mono ?_; rintro e w' ⟨rfl, rfl⟩) | (go_at_call 47; refine (s_roundDiv_any _ _ _).mono ?_; rintro e w' ⟨rfl, rfl⟩) | (go_at_call 25; refine (work_yes _ _ ?_).mono ?_; (omega); rintro e w' ⟨rfl, rfl⟩) | (go_at_call 25; refine (work_no _ _ ?_).mono ?_; (omega); rintro e w' ⟨rfl, rfl⟩) | (go_at_call 26; refine (alive_any _).mono ?_; rintro e w' ⟨rfl, rfl⟩))
          go_ret
          exact ⟨ret_b (by simp [*]), hb⟩
        · have hz := hq (.inr (by omega))
          have he : (2 * (Fx.roundDiv x b * b - x) == b) = true := by rw [beq_iff_eq]; omega
          clear hq
          go_wp2_with (first | (go_at_call 40; refine (roundDiv_any _ _ _).mono ?_; rintro e w' ⟨rfl, rfl⟩) | (go_at_call 47; refine (s_roundDiv_any _ _ _).mono ?_; rintro e w' ⟨rfl, rfl⟩) | (go_at_call 25; refine (work_yes _ _ ?_).mono ?_; (omega); rintro e w' ⟨rfl, rfl⟩) | (go_at_call 25; refine (work_no _ _ ?_).mono ?_; (omega); rintro e w' ⟨rfl, rfl⟩) | (go_at_call 26; refine (alive_any _).mono ?_; rintro e w' ⟨rfl, rfl⟩))
          go_ret
          exact ⟨ret_b (by simp [*]), hb⟩
      · by_cases ht : 2 * (x - Fx.roundDiv x b * b) < b
        · clear hq
          go_wp2_with (first | (go_at_call 40; refine (roundDiv_any _ _ _).mono ?_; rintro e w' ⟨rfl, rfl⟩) | (go_at_call 47; refine (s_roundDiv_any _ _ _).mono ?_; rintro e w' ⟨rfl, rfl⟩) | (go_at_call 25; refine (work_yes _ _ ?_).mono ?_; (omega); rintro e w' ⟨rfl, rfl⟩) | (go_at_call 25; refine (work_no _ _ ?_).mono ?_; (omega); rintro e w' ⟨rfl, rfl⟩) | (go_at_call 26; refine (alive_any _).mono ?_; rintro e w' ⟨rfl, rfl⟩))
          go_ret
          exact ⟨ret_b (by simp [*]), hb⟩
        · have hz := hq (.inl (by omega))
          have he : (2 * (x - Fx.roundDiv x b * b) == b) = true := by rw [beq_iff_eq]; omega
          clear hq
          go_wp2_with (first | (go_at_call 40; refine (roundDiv_any _ _ _).mono ?_; rintro e w' ⟨rfl, rfl⟩) | (go_at_call 47; refine (s_roundDiv_any _ _ _).mono ?_; rintro e w' ⟨rfl, rfl⟩) | (go_at_call 25; refine (work_yes _ _ ?_).mono ?_; (omega); rintro e w' ⟨rfl, rfl⟩) | (go_at_call 25; refine (work_no _ _ ?_).mono ?_; (omega); rintro e w' ⟨rfl, rfl⟩) | (go_at_call 26; refine (alive_any _).mono ?_; rintro e w' ⟨rfl, rfl⟩))
          go_ret
          exact ⟨ret_b (by simp [*]), hb⟩
    · have e0 : Fx.roundDiv x b = 0 := by rw [Fx.roundDiv, if_neg (by unfold Fx.Work; omega)]
      by_cases hx : -1152921504606846976 ≤ x ∧ x ≤ 1152921504606846976
      · have hk' : b < 1 ∨ 1152921504606846976 < b := by omega
        clear hv
        go_wp2_with (first | (go_at_call 40; refine (roundDiv_any _ _ _).mono ?_; rintro e w' ⟨rfl, rfl⟩) | (go_at_call 47; refine (s_roundDiv_any _ _ _).mono ?_; rintro e w' ⟨rfl, rfl⟩) | (go_at_call 25; refine (work_yes _ _ ?_).mono ?_; (omega); rintro e w' ⟨rfl, rfl⟩) | (go_at_call 25; refine (work_no _ _ ?_).mono ?_; (omega); rintro e w' ⟨rfl, rfl⟩) | (go_at_call 26; refine (alive_any _).mono ?_; rintro e w' ⟨rfl, rfl⟩))
        all_goals go_ret
        all_goals exact ⟨rfl, hb⟩
      · clear hv
        go_wp2_with (first | (go_at_call 40; refine (roundDiv_any _ _ _).mono ?_; rintro e w' ⟨rfl, rfl⟩) | (go_at_call 47; refine (s_roundDiv_any _ _ _).mono ?_; rintro e w' ⟨rfl, rfl⟩) | (go_at_call 25; refine (work_yes _ _ ?_).mono ?_; (omega); rintro e w' ⟨rfl, rfl⟩) | (go_at_call 25; refine (work_no _ _ ?_).mono ?_; (omega); rintro e w' ⟨rfl, rfl⟩) | (go_at_call 26; refine (alive_any _).mono ?_; rintro e w' ⟨rfl, rfl⟩))
        go_ret
        exact ⟨rfl, hb⟩

/-! The frame: after the kit's own shell (proof-skeleton). -/
theorem own : ownKnob Try.prog.godebug = none := by kernel_rfl
theorem laidOut : laidOutB Try.prog = true := by kernel_rfl

set_option linter.unusedVariables false in
set_option maxRecDepth 100000 in
theorem lifted (os : Os) (started : os.Started) (H : Type) (enc : TypeId × Value → H) :
    ReturnsInHanded {} Try.checked os 12 .any (Rows.fnRoundDivSpec.pre6 enc Try.prog Try.f12 Rows.fnRoundDivRow.domain false) (Rows.fnRoundDivSpec.post enc Try.prog Try.f12 false true false false) := by
  refine returnsInHanded_of_change (C := Try.checked) own started (by kernel_rfl) Try.func12
    (ChangeSpec.witness6 (enc := enc) (C := Try.checked) false ⟨#[], #[.slice none 0 0], []⟩ 8 (by kernel_rfl) (by kernel_rfl) (by kernel_rfl) (by kernel_rfl)) ?_
  intro W base args ds gs before hval0 hW hcnd _
  have hval : ∀ (j : Nat) t v, Try.f12.params[j]? = some t → args[j]? = some v → Value.okWide Try.prog W .any base t v := hval0
  have hW' := hW
  obtain ⟨p, q, hA0, hV, rfl, hfz, hnd⟩ := hW
  have hA : DataW.TrodAll enc Try.prog W 0 (fun _ => true) true Try.f12.params.toList args.toList ds p := hA0
  rw [Try.params12] at hA hval
  obtain ⟨v0, vs0, d0, ds0, p0, q0, hargs, rfl, rfl, h0, r0⟩ := trodAll_cons hA
  obtain ⟨rfl, rfl, rfl⟩ := trodAll_nil r0
  obtain rfl : args = #[v0] := by cases args; simp_all
  obtain ⟨rfl, rfl⟩ := trodVars_none hV
  have k0 := h0
  have lt0 : ∀ x ∈ p0, x.block < W.heap.size := by obtain ⟨m, hm⟩ := k0; exact DataW.trod_lt m _ _ _ hm
  obtain ⟨a0, len0, cap0, rfl⟩ := okWide_slice Try.underlying22 (hval 0 22 v0 rfl rfl)
  obtain ⟨z0, w0⟩ : ∃ zs, Row8 W W.heap.size a0 len0 cap0 zs := by
    obtain ⟨fuel, hf⟩ := h0
    rcases open_ints Try.underlying22 Try.underlying5 (by kernel_rfl) hf with ⟨hcs, _⟩ | ⟨x, l, c, zs, hcs, _, hl, hm, hz, _, hcell, hwz⟩
    · simp [Value.cells] at hcs
      obtain ⟨rfl, rfl, rfl⟩ := hcs
      exact ⟨fun _ => 0, Row8.nil W _⟩
    · simp [Value.cells] at hcs
      obtain ⟨rfl, rfl, rfl⟩ := hcs
      exact ⟨_, Row8.of_ints hl hm (by simpa using hz) hcell hwz⟩
  clear hA0 hval0
  refine (walk a0 len0 cap0 z0 W w0).mono fun e W' ⟨he, bel⟩ => ?_
  subst he
  exact ⟨_, rfl, _, _, _, [], _, [], hW', trodAll_mk1 (shut_bool Try.underlying4 _), (trodAll_cons_mk (Below.trod laidOut (by kernel_rfl) (of_decide_eq_true (by kernel_rfl)) k0 bel lt0) trodAll_mk0), rfl, bel.frame _, fun h => by cases h⟩

set_option maxRecDepth 100000 in
theorem closed : joinedFacts Try.prog 12 Try.f12 Rows.fnRoundDivSpec Rows.fnRoundDivRow = true := by
  unfold joinedFacts
  rw [mayEnter_ok, liftsFinal_ok, make_ok]
  kernel_rfl

theorem over : Rows.fnRoundDivRow.holds Try.pinned (OpenSpec.ofChange Rows.fnRoundDivSpec) :=
  OpenClaim.holds_of_wide 12 Try.f12 rfl rfl rfl rfl rfl rfl rfl ⟨rfl, rfl, rfl, rfl, rfl⟩ rfl rfl rfl rfl rfl (by kernel_rfl) Try.func12 closed
    (of_decide_eq_true (by kernel_rfl)) (by unfold Func.isWrapper; first | (rw [if_pos (by decide +kernel)]; kernel_rfl) | (rw [if_neg (by decide +kernel)]; exact ⟨rfl, rfl⟩))
    (fun os started H enc _ => lifted os started H enc)

/-- The statement. -/
theorem proved : Rows.FnRoundDivSaid := over
#print axioms proved

end Go.Proofs.Ytjbaegbdacpdnaa.fnRoundDiv
