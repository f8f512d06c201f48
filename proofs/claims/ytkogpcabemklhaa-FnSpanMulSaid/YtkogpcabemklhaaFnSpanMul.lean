/- Products are in the product: FnSpanMul returns true for every code, and reads it alone. No condition. -/
import Derived.Test.YtkogpcabemklhaaLawSpan
import Derived.ShutString
import Derived.ChangeOld
namespace Go.Proofs.Ytkogpcabemklhaa.fnSpanMul
open Go.ChangeShapes Go.WideShapes Go.ChangeAt Go.RowKit

set_option maxHeartbeats 4000000 in
theorem walk (a : Option Addr) (len cap : Nat) (zs : Nat → Int) (w : World) (h : Row8 w w.heap.size a len cap zs) :
    Calls Try.prog 9 #[.slice a len cap] w fun e w' => e = .returned (.bool true) ∧ Below w.heap.size w w' := by
  have hl : len ≤ 9223372036854775807 := Nat.le_trans h.1 h.2.1
  have H := Lib.hid h
  clear h
  by_cases hlen : 1048576 < len
  · go_enter Try.func9, Try.ntmps9
    go_wp2
    go_ret
    exact ⟨rfl, Below.refl _ _⟩
  · go_enter Try.func9, Try.ntmps9
    go_wp2_with fail
    refine (drawSpanMul_any _ _ _ _ _ H.out).mono ?_
    rintro e u ⟨a, b, c, d, rfl, hb0⟩
    clear H
    have hx := hold_four u (.int .i64 a) (.int .i64 b) (.int .i64 c) (.int .i64 d) 24 24
    obtain ⟨X, Y, k, M1, S1, M2, hN, hK⟩ := mul_pack a b c d
    (have hf := hx.2; simp only [List.forall_mem_cons, List.not_mem_nil, false_imp_iff, implies_true, and_true] at hf)
    cases k
    · obtain ⟨rfl, rfl⟩ := hN rfl
      clear hK hN
      go_wp2_with (first | (go_at_call 21; (with_reducible refine (M1 _).mono ?_); rintro e w1 ⟨rfl, hb⟩; replace hx := (hx.below hb).box (.int .i64 (0)) (.int .i64 (0)) 24; clear hb; (try clear hf); (have hf := hx.2; simp only [List.forall_mem_cons, List.not_mem_nil, false_imp_iff, implies_true, and_true] at hf)) | (go_at_call 21; (with_reducible refine (M2 _).mono ?_); rintro e w1 ⟨rfl, hb⟩; replace hx := (hx.below hb).box (.int .i64 (0)) (.int .i64 (0)) 24; clear hb; (try clear hf); (have hf := hx.2; simp only [List.forall_mem_cons, List.not_mem_nil, false_imp_iff, implies_true, and_true] at hf)) | (go_at_call 19; (with_reducible refine (S1 _).mono ?_); rintro e w1 ⟨rfl, hb⟩; replace hx := (hx.below hb).box (.int .i64 (0)) (.int .i64 (0)) 24; clear hb; (try clear hf); (have hf := hx.2; simp only [List.forall_mem_cons, List.not_mem_nil, false_imp_iff, implies_true, and_true] at hf)) | (go_at_call 17; (with_reducible refine (alive_b _).mono ?_); rintro e w1 ⟨rfl, hb⟩; replace hx := hx.below hb; clear hb; (try clear hf); (have hf := hx.2; simp only [List.forall_mem_cons, List.not_mem_nil, false_imp_iff, implies_true, and_true] at hf)))
      go_ret
      exact ⟨rfl, hb0.trans (hx.1.mono hb0.size)⟩
    · obtain ⟨v1, v2, v3, hb, -, -⟩ := hK rfl
      clear hN hK
      have V := Lib.hid v3
      have HBD := Lib.hid hb
      have W3 : (-1073741824 ≤ X ∧ X ≤ 1073741824) ∧ (-1073741824 ≤ Y ∧ Y ≤ 1073741824) := ⟨v3.1, v3.2.1⟩
      have W1 : (-1073741824 ≤ a ∧ a ≤ 1073741824) ∧ (-1073741824 ≤ b ∧ b ≤ 1073741824) ∧ a ≤ b := v1
      have W2 : (-1073741824 ≤ c ∧ c ≤ 1073741824) ∧ (-1073741824 ≤ d ∧ d ≤ 1073741824) ∧ c ≤ d := v2
      clear v1 v2 v3 hb
      go_wp2_with (first | (go_at_call 21; (with_reducible refine (M1 _).mono ?_); rintro e w1 ⟨rfl, hb⟩; replace hx := (hx.below hb).box (.int .i64 (X)) (.int .i64 (Y)) 24; clear hb; (try clear hf); (have hf := hx.2; simp only [List.forall_mem_cons, List.not_mem_nil, false_imp_iff, implies_true, and_true] at hf)) | (go_at_call 21; (with_reducible refine (M2 _).mono ?_); rintro e w1 ⟨rfl, hb⟩; replace hx := (hx.below hb).box (.int .i64 (X)) (.int .i64 (Y)) 24; clear hb; (try clear hf); (have hf := hx.2; simp only [List.forall_mem_cons, List.not_mem_nil, false_imp_iff, implies_true, and_true] at hf)) | (go_at_call 19; (with_reducible refine (S1 _).mono ?_); rintro e w1 ⟨rfl, hb⟩; replace hx := (hx.below hb).box (.int .i64 (X)) (.int .i64 (Y)) 24; clear hb; (try clear hf); (have hf := hx.2; simp only [List.forall_mem_cons, List.not_mem_nil, false_imp_iff, implies_true, and_true] at hf)))
      clear M1 M2 S1
      go_loop [11, 12, 13, 14] (fun k _ _ _ => ∃ i : Nat, i ≤ 4 ∧ k = .int .i64 i) (fun k _ _ _ => (4 - intOf k).toNat)
      case atStart => exact ⟨0, by omega, rfl⟩
      case round =>
        obtain ⟨i, hi, rfl⟩ := hrel
        by_cases h3 : i ≤ 3
        · have hi3 : (i : Int) ≤ 3 := by omega
          have k0 : 0 ≤ (b - a) * (i : Int) := Int.mul_nonneg (by omega) (by omega)
          have k1 : (b - a) * (i : Int) ≤ (b - a) * 3 := Int.mul_le_mul_of_nonneg_left hi3 (by omega)
          have k2 : (b - a) * (i : Int) ≤ 6442450944 := by omega
          go_wp2
          go_loop [12, 13, 14] (fun j _ _ => ∃ l : Nat, l ≤ 4 ∧ j = .int .i64 l) (fun j _ _ => (4 - intOf j).toNat)
          case atStart => exact ⟨0, by omega, rfl⟩
          case round =>
            obtain ⟨l, hl4, rfl⟩ := hrel
            by_cases h4 : l ≤ 3
            · have hl3 : (l : Int) ≤ 3 := by omega
              have m0 : 0 ≤ (d - c) * (l : Int) := Int.mul_nonneg (by omega) (by omega)
              have m1 : (d - c) * (l : Int) ≤ (d - c) * 3 := Int.mul_le_mul_of_nonneg_left hl3 (by omega)
              have m2 : (d - c) * (l : Int) ≤ 6442450944 := by omega
              obtain ⟨q1, q2⟩ := HBD.out (a + (b - a) * (i : Int) / 3) (c + (d - c) * (l : Int) / 3) ⟨by omega, by omega⟩ ⟨by omega, by omega⟩
              have q3 : -288230376151711744 ≤ X * 268435456 := by omega
              have q4 : Y * 268435456 ≤ 288230376151711744 := by omega
              clear k1 m1
              go_wp2
              go_round
              case rel => exact ⟨l + 1, by omega, by go_num⟩
              case measure => simp [intOf]; omega
            · go_wp2
              go_round
              case rel => exact ⟨i + 1, by omega, by go_num⟩
              case measure => simp [intOf]; omega
        · go_wp2_with (go_at_call 18; (with_reducible refine (spanValid_yes _ _ _ V.out).mono ?_); rintro e w1 ⟨rfl, hb⟩; replace hx := hx.below hb; clear hb; (try clear hf); (have hf := hx.2; simp only [List.forall_mem_cons, List.not_mem_nil, false_imp_iff, implies_true, and_true] at hf))
          go_ret
          exact ⟨rfl, hb0.trans (hx.1.mono hb0.size)⟩

/-! The frame: after the kit's own shell (proof-skeleton). -/
theorem own : ownKnob Try.prog.godebug = none := by kernel_rfl
theorem laidOut : laidOutB Try.prog = true := by kernel_rfl

set_option linter.unusedVariables false in
set_option maxRecDepth 100000 in
theorem lifted (os : Os) (started : os.Started) (H : Type) (enc : TypeId × Value → H) :
    ReturnsInHanded {} Try.checked os 9 .any (Rows.fnSpanMulSpec.pre6 enc Try.prog Try.f9 Rows.fnSpanMulRow.domain false) (Rows.fnSpanMulSpec.post enc Try.prog Try.f9 false true false false) := by
  refine returnsInHanded_of_change (C := Try.checked) own started (by kernel_rfl) Try.func9
    (ChangeSpec.witness6 (enc := enc) (C := Try.checked) false ⟨#[], #[.slice none 0 0], []⟩ 8 (by kernel_rfl) (by kernel_rfl) (by kernel_rfl) (by kernel_rfl)) ?_
  intro W base args ds gs before hval0 hW hcnd _
  have hval : ∀ (j : Nat) t v, Try.f9.params[j]? = some t → args[j]? = some v → Value.okWide Try.prog W .any base t v := hval0
  have hW' := hW
  obtain ⟨p, q, hA0, hV, rfl, hfz, hnd⟩ := hW
  have hA : DataW.TrodAll enc Try.prog W 0 (fun _ => true) true Try.f9.params.toList args.toList ds p := hA0
  rw [Try.params9] at hA hval
  obtain ⟨v0, vs0, d0, ds0, p0, q0, hargs, rfl, rfl, h0, r0⟩ := trodAll_cons hA
  obtain ⟨rfl, rfl, rfl⟩ := trodAll_nil r0
  obtain rfl : args = #[v0] := by cases args; simp_all
  obtain ⟨rfl, rfl⟩ := trodVars_none hV
  have k0 := h0
  have lt0 : ∀ x ∈ p0, x.block < W.heap.size := by obtain ⟨m, hm⟩ := k0; exact DataW.trod_lt m _ _ _ hm
  obtain ⟨a0, len0, cap0, rfl⟩ := okWide_slice Try.underlying22 (hval 0 22 v0 rfl rfl)
  obtain ⟨z0, w0⟩ : ∃ zs, Row8 W W.heap.size a0 len0 cap0 zs := by
    obtain ⟨fuel, hf⟩ := h0
    rcases open_ints Try.underlying22 Try.underlying5 (by kernel_rfl) hf with ⟨hcs, _⟩ | ⟨x, l, c, zs, hcs, _, hl, hm, hz, _, hcell, hwz⟩
    · simp [Value.cells] at hcs
      obtain ⟨rfl, rfl, rfl⟩ := hcs
      exact ⟨fun _ => 0, Row8.nil W _⟩
    · simp [Value.cells] at hcs
      obtain ⟨rfl, rfl, rfl⟩ := hcs
      exact ⟨_, Row8.of_ints hl hm (by simpa using hz) hcell hwz⟩
  clear hA0 hval0
  refine (walk a0 len0 cap0 z0 W w0).mono fun e W' ⟨he, bel⟩ => ?_
  subst he
  exact ⟨_, rfl, _, _, _, [], _, [], hW', trodAll_mk1 (shut_bool Try.underlying4 _), (trodAll_cons_mk (Below.trod laidOut (by kernel_rfl) (of_decide_eq_true (by kernel_rfl)) k0 bel lt0) trodAll_mk0), rfl, bel.frame _, fun h => by cases h⟩

set_option maxRecDepth 100000 in
theorem closed : joinedFacts Try.prog 9 Try.f9 Rows.fnSpanMulSpec Rows.fnSpanMulRow = true := by
  unfold joinedFacts
  rw [mayEnter_ok, liftsFinal_ok, make_ok]
  kernel_rfl

theorem over : Rows.fnSpanMulRow.holds Try.pinned (OpenSpec.ofChange Rows.fnSpanMulSpec) :=
  OpenClaim.holds_of_wide 9 Try.f9 rfl rfl rfl rfl rfl rfl rfl ⟨rfl, rfl, rfl, rfl, rfl⟩ rfl rfl rfl rfl rfl (by kernel_rfl) Try.func9 closed
    (of_decide_eq_true (by kernel_rfl)) (by unfold Func.isWrapper; first | (rw [if_pos (by decide +kernel)]; kernel_rfl) | (rw [if_neg (by decide +kernel)]; exact ⟨rfl, rfl⟩))
    (fun os started H enc _ => lifted os started H enc)

/-- The statement. -/
theorem proved : Rows.FnSpanMulSaid := over
#print axioms proved

end Go.Proofs.Ytkogpcabemklhaa.fnSpanMul
