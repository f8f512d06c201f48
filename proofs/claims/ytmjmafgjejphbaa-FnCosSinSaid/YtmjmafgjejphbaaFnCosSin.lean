/- Cosines and sines are the reference's: FnCosSin returns true for every code, and reads it alone. No condition. -/
import Derived.Test.YtmjmafgjejphbaaCosSin
import Derived.Test.YtmjmafgjejphbaaDrawCos
import Derived.Test.YtmjmafgjejphbaaLawArc
import Derived.ShutString
import Derived.ChangeOld
namespace Go.Proofs.Ytmjmafgjejphbaa.fnCosSin
open Go.ChangeShapes Go.WideShapes Go.ChangeAt Go.RowKit

set_option maxHeartbeats 4000000 in
theorem walk (a : Option Addr) (len cap : Nat) (zs : Nat → Int) (w : World) (h : Row8 w w.heap.size a len cap zs) :
    Calls Try.prog 3 #[.slice a len cap] w fun e w' => e = .returned (.bool true) ∧ Below w.heap.size w w' := by
  have hl : len ≤ 9223372036854775807 := Nat.le_trans h.1 h.2.1
  have H := Lib.hid h
  clear h
  by_cases hlen : 1048576 < len
  · go_enter Try.func3, Try.ntmps3
    go_wp2
    go_ret
    exact ⟨rfl, Below.refl _ _⟩
  · go_enter Try.func3, Try.ntmps3
    go_wp2_with fail
    refine (drawCosSin_any _ _ _ _ _ H.out).mono ?_
    rintro e u ⟨x, rfl, hb0⟩
    clear H
    have hx := Bx.nil u
    have M := fun w => cosSin_any x w
    have S := fun w => s_cosSin_any x w
    by_cases hw : -1152921504606846976 ≤ x ∧ x ≤ 1152921504606846976
    · have W := fun w => wrapAngle_any x w
      rw [show Fx.wrapAngle x = x % 65536 from if_pos hw] at W
      have ht : 0 ≤ x % 65536 ∧ x % 65536 ≤ 65535 := by omega
      obtain ⟨l1, l2, l3, l4, l5, l6, l7⟩ := Fx.cosSin_law x hw
      have M2 := fun w => cosSin_any (x % 65536 + 16384) w
      rw [l1] at M2
      clear l1 l2 l3
      generalize Fx.cosSin x = z at *
      obtain ⟨c, s⟩ := z
      simp only at l4 l5 l6 l7
      generalize x % 65536 = t at *
      have k1 : 0 ≤ c * c := by
        rcases (show 0 ≤ c ∨ 0 ≤ -c by omega) with h | h
        · exact Int.mul_nonneg h h
        · have h9 := Int.mul_nonneg h h
          rwa [Int.neg_mul_neg] at h9
      have k2 : 0 ≤ s * s := by
        rcases (show 0 ≤ s ∨ 0 ≤ -s by omega) with h | h
        · exact Int.mul_nonneg h h
        · have h9 := Int.mul_nonneg h h
          rwa [Int.neg_mul_neg] at h9
      have k3 : c * c ≤ 268500992 ∧ s * s ≤ 268500992 := by omega
      go_wp2_with (first | (go_at_call 25; (with_reducible refine (M _).mono ?_); rintro e w1 ⟨rfl, hb⟩; replace hx := Bx.below hx hb; clear hb) | (go_at_call 25; (with_reducible refine (M2 _).mono ?_); rintro e w1 ⟨rfl, hb⟩; replace hx := Bx.below hx hb; clear hb) | (go_at_call 26; (with_reducible refine (S _).mono ?_); rintro e w1 ⟨rfl, hb⟩; replace hx := Bx.below hx hb; clear hb) | (go_at_call 27; refine (work_yes _ _ ?_).mono ?_; (omega); rintro e w' ⟨rfl, rfl⟩) | (go_at_call 27; refine (work_no _ _ ?_).mono ?_; (omega); rintro e w' ⟨rfl, rfl⟩) | (go_at_call 29; (with_reducible refine (W _).mono ?_); rintro e w' ⟨rfl, rfl⟩))
      go_ret
      exact ⟨ret_b (by simp; try omega), hb0.trans (hx.1.mono hb0.size)⟩
    · rw [show Fx.cosSin x = (0, 0) from if_neg hw] at M S
      have hc : x < -1152921504606846976 ∨ 1152921504606846976 < x := by omega
      go_wp2_with (first | (go_at_call 25; (with_reducible refine (M _).mono ?_); rintro e w1 ⟨rfl, hb⟩; replace hx := Bx.below hx hb; clear hb) | (go_at_call 26; (with_reducible refine (S _).mono ?_); rintro e w1 ⟨rfl, hb⟩; replace hx := Bx.below hx hb; clear hb) | (go_at_call 27; refine (work_yes _ _ ?_).mono ?_; (omega); rintro e w' ⟨rfl, rfl⟩) | (go_at_call 27; refine (work_no _ _ ?_).mono ?_; (omega); rintro e w' ⟨rfl, rfl⟩) | (go_at_call 28; (with_reducible refine (alive_b _).mono ?_); rintro e w1 ⟨rfl, hb⟩; replace hx := Bx.below hx hb; clear hb))
      go_ret
      exact ⟨rfl, hb0.trans (hx.1.mono hb0.size)⟩

/-! The frame: after the kit's own shell (proof-skeleton). -/
theorem own : ownKnob Try.prog.godebug = none := by kernel_rfl
theorem laidOut : laidOutB Try.prog = true := by kernel_rfl

set_option linter.unusedVariables false in
set_option maxRecDepth 100000 in
theorem lifted (os : Os) (started : os.Started) (H : Type) (enc : TypeId × Value → H) :
    ReturnsInHanded {} Try.checked os 3 .any (Rows.fnCosSinSpec.pre6 enc Try.prog Try.f3 Rows.fnCosSinRow.domain false) (Rows.fnCosSinSpec.post enc Try.prog Try.f3 false true false false) := by
  refine returnsInHanded_of_change (C := Try.checked) own started (by kernel_rfl) Try.func3
    (ChangeSpec.witness6 (enc := enc) (C := Try.checked) false ⟨#[], #[.slice none 0 0], []⟩ 8 (by kernel_rfl) (by kernel_rfl) (by kernel_rfl) (by kernel_rfl)) ?_
  intro W base args ds gs before hval0 hW hcnd _
  have hval : ∀ (j : Nat) t v, Try.f3.params[j]? = some t → args[j]? = some v → Value.okWide Try.prog W .any base t v := hval0
  have hW' := hW
  obtain ⟨p, q, hA0, hV, rfl, hfz, hnd⟩ := hW
  have hA : DataW.TrodAll enc Try.prog W 0 (fun _ => true) true Try.f3.params.toList args.toList ds p := hA0
  rw [Try.params3] at hA hval
  obtain ⟨v0, vs0, d0, ds0, p0, q0, hargs, rfl, rfl, h0, r0⟩ := trodAll_cons hA
  obtain ⟨rfl, rfl, rfl⟩ := trodAll_nil r0
  obtain rfl : args = #[v0] := by cases args; simp_all
  obtain ⟨rfl, rfl⟩ := trodVars_none hV
  have k0 := h0
  have lt0 : ∀ x ∈ p0, x.block < W.heap.size := by obtain ⟨m, hm⟩ := k0; exact DataW.trod_lt m _ _ _ hm
  obtain ⟨a0, len0, cap0, rfl⟩ := okWide_slice Try.underlying22 (hval 0 22 v0 rfl rfl)
  obtain ⟨z0, w0⟩ : ∃ zs, Row8 W W.heap.size a0 len0 cap0 zs := by
    obtain ⟨fuel, hf⟩ := h0
    rcases open_ints Try.underlying22 Try.underlying5 (by kernel_rfl) hf with ⟨hcs, _⟩ | ⟨x, l, c, zs, hcs, _, hl, hm, hz, _, hcell, hwz⟩
    · simp [Value.cells] at hcs
      obtain ⟨rfl, rfl, rfl⟩ := hcs
      exact ⟨fun _ => 0, Row8.nil W _⟩
    · simp [Value.cells] at hcs
      obtain ⟨rfl, rfl, rfl⟩ := hcs
      exact ⟨_, Row8.of_ints hl hm (by simpa using hz) hcell hwz⟩
  clear hA0 hval0
  refine (walk a0 len0 cap0 z0 W w0).mono fun e W' ⟨he, bel⟩ => ?_
  subst he
  exact ⟨_, rfl, _, _, _, [], _, [], hW', trodAll_mk1 (shut_bool Try.underlying4 _), (trodAll_cons_mk (Below.trod laidOut (by kernel_rfl) (of_decide_eq_true (by kernel_rfl)) k0 bel lt0) trodAll_mk0), rfl, bel.frame _, fun h => by cases h⟩

set_option maxRecDepth 100000 in
theorem closed : joinedFacts Try.prog 3 Try.f3 Rows.fnCosSinSpec Rows.fnCosSinRow = true := by
  unfold joinedFacts
  rw [mayEnter_ok, liftsFinal_ok, make_ok]
  kernel_rfl

theorem over : Rows.fnCosSinRow.holds Try.pinned (OpenSpec.ofChange Rows.fnCosSinSpec) :=
  OpenClaim.holds_of_wide 3 Try.f3 rfl rfl rfl rfl rfl rfl rfl ⟨rfl, rfl, rfl, rfl, rfl⟩ rfl rfl rfl rfl rfl (by kernel_rfl) Try.func3 closed
    (of_decide_eq_true (by kernel_rfl)) (by unfold Func.isWrapper; first | (rw [if_pos (by decide +kernel)]; kernel_rfl) | (rw [if_neg (by decide +kernel)]; exact ⟨rfl, rfl⟩))
    (fun os started H enc _ => lifted os started H enc)

/-- The statement. -/
theorem proved : Rows.FnCosSinSaid := over
#print axioms proved

end Go.Proofs.Ytmjmafgjejphbaa.fnCosSin
