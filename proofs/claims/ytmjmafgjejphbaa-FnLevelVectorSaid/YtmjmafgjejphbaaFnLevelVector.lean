/- Levelled vectors: FnLevelVector returns true for every code, and reads it alone. No condition. -/
import Derived.Test.YtmjmafgjejphbaaLevel
import Derived.Test.YtmjmafgjejphbaaMathL
import Derived.Test.YtmjmafgjejphbaaDrawVec2
import Derived.Test.YtmjmafgjejphbaaLawArc
import Derived.ShutString
import Derived.ChangeOld
namespace Go.Proofs.Ytmjmafgjejphbaa.fnLevelVector
open Go.ChangeShapes Go.WideShapes Go.ChangeAt Go.RowKit

theorem level_law_pack (X Y n : Int) : ∃ (x y t : Int) (q : Bool), Fx.levelVector X Y n = (x, y, t, q) ∧ (q = false → x = 0 ∧ y = 0 ∧ t = 0) ∧
    (q = true → (-1152921504606846976 ≤ x ∧ x ≤ 1152921504606846976) ∧ (-1152921504606846976 ≤ y ∧ y ≤ 1152921504606846976) ∧ (0 ≤ n ∧ n ≤ 20) ∧
      (n = 20 → 1073741824 ≤ X → 0 ≤ Y → Y ≤ X → (y ≤ x.tdiv 100000 ∧ -y ≤ x.tdiv 100000 ∧ x.tdiv 100000 ≤ x) ∧ (-200 ≤ t ∧ t ≤ 8388808) ∧ X ≤ x)) := by
  by_cases h : Fx.VecIn X Y ∧ 0 ≤ n ∧ n ≤ 20
  · obtain ⟨hv, hn⟩ := h
    obtain ⟨N, rfl⟩ : ∃ N : Nat, n = N := ⟨n.toNat, by omega⟩
    have hN : N ≤ 20 := by omega
    have e : Fx.levelVector X Y N = ((Fx.level X Y N).1, (Fx.level X Y N).2.1, (Fx.level X Y N).2.2, true) := by
      unfold Fx.levelVector; rw [if_pos ⟨hv, hn⟩]; rfl
    have z := Fx.level_size hv N hN
    have p := Fx.pow_le_pow (k := 40 + N) (n := 60) (by omega)
    have e60 : (2 : Int) ^ 60 = 1152921504606846976 := by decide
    refine ⟨_, _, _, _, e, by simp, fun _ => ⟨by omega, by omega, hn, ?_⟩⟩
    intro h1 h2 h3 h4
    obtain rfl : N = 20 := by omega
    have l := Fx.level_law h2 h3 h4
    have q : (Fx.level X Y 20).1.tdiv 100000 = (Fx.level X Y 20).1 / 100000 := Int.tdiv_eq_ediv_of_nonneg (by omega)
    rw [q]
    omega
  · exact ⟨0, 0, 0, false, if_neg h, fun _ => ⟨rfl, rfl, rfl⟩, by simp⟩

set_option maxHeartbeats 8000000 in
theorem walk (a : Option Addr) (len cap : Nat) (zs : Nat → Int) (w : World) (h : Row8 w w.heap.size a len cap zs) :
    Calls Try.prog 19 #[.slice a len cap] w fun e w' => e = .returned (.bool true) ∧ Below w.heap.size w w' := by
  have hl : len ≤ 9223372036854775807 := Nat.le_trans h.1 h.2.1
  have H := Lib.hid h
  clear h
  by_cases hlen : 1048576 < len
  · go_enter Try.func19, Try.ntmps19
    go_wp2
    go_ret
    exact ⟨rfl, Below.refl _ _⟩
  · go_enter Try.func19, Try.ntmps19
    go_wp2_with fail
    refine (drawLevelVector_any _ _ _ _ _ H.out).mono ?_
    rintro e u ⟨X, Y, n, rfl, hb0⟩
    clear H
    have hx := bx_one u X Y 46
    obtain ⟨x, y, t, q, e, hN, hK⟩ := level_law_pack X Y n
    have M := fun w => levelVector_any X Y n w
    have S := fun w => s_levelVector_any X Y n w
    unfold LevelV at M S
    rw [e] at M S
    clear e
    (have hf := hx.2.2; simp only [List.forall_mem_cons, List.not_mem_nil, false_imp_iff, implies_true, and_true, Bx1] at hf; first | have hd := bx_apart4 hx | have hd := bx_apart3 hx | have hd := bx_apart2 hx | have hd := trivial)
    cases q
    · obtain ⟨rfl, rfl, rfl⟩ := hN rfl
      clear hN hK
      go_wp2_with (first | (go_at_call 67; (with_reducible refine (M _).mono ?_); rintro e w2 ⟨rfl, hb⟩; replace hx := (Bx.below hx hb).box (0) (0) 46; clear hb; (try clear hf hd); (have hf := hx.2.2; simp only [List.forall_mem_cons, List.not_mem_nil, false_imp_iff, implies_true, and_true, Bx1] at hf; first | have hd := bx_apart4 hx | have hd := bx_apart3 hx | have hd := bx_apart2 hx | have hd := trivial)) | (go_at_call 66; (with_reducible refine (S _).mono ?_); rintro e w2 ⟨rfl, hb⟩; replace hx := (Bx.below hx hb).box (0) (0) 46; clear hb; (try clear hf hd); (have hf := hx.2.2; simp only [List.forall_mem_cons, List.not_mem_nil, false_imp_iff, implies_true, and_true, Bx1] at hf; first | have hd := bx_apart4 hx | have hd := bx_apart3 hx | have hd := bx_apart2 hx | have hd := trivial)) | (go_at_call 28; (with_reducible refine (alive_b _).mono ?_); rintro e w1 ⟨rfl, hb⟩; replace hx := Bx.below hx hb; clear hb; (try clear hf hd); (have hf := hx.2.2; simp only [List.forall_mem_cons, List.not_mem_nil, false_imp_iff, implies_true, and_true, Bx1] at hf; first | have hd := bx_apart4 hx | have hd := bx_apart3 hx | have hd := bx_apart2 hx | have hd := trivial)))
      go_ret
      exact ⟨ret_b (by simp), hb0.trans (hx.1.mono hb0.size)⟩
    · obtain ⟨hbx, hby, hn, hK⟩ := hK rfl
      clear hN
      by_cases c : n = 20 ∧ 1073741824 ≤ X ∧ 0 ≤ Y ∧ Y ≤ X
      · obtain ⟨rfl, c2, c3, c4⟩ := c
        obtain ⟨⟨k1, k2, k3⟩, k4, k5⟩ := hK rfl c2 c3 c4
        clear hK
        go_wp2_with (first | (go_at_call 67; (with_reducible refine (M _).mono ?_); rintro e w2 ⟨rfl, hb⟩; replace hx := (Bx.below hx hb).box (x) (y) 46; clear hb; (try clear hf hd); (have hf := hx.2.2; simp only [List.forall_mem_cons, List.not_mem_nil, false_imp_iff, implies_true, and_true, Bx1] at hf; first | have hd := bx_apart4 hx | have hd := bx_apart3 hx | have hd := bx_apart2 hx | have hd := trivial)) | (go_at_call 66; (with_reducible refine (S _).mono ?_); rintro e w2 ⟨rfl, hb⟩; replace hx := (Bx.below hx hb).box (x) (y) 46; clear hb; (try clear hf hd); (have hf := hx.2.2; simp only [List.forall_mem_cons, List.not_mem_nil, false_imp_iff, implies_true, and_true, Bx1] at hf; first | have hd := bx_apart4 hx | have hd := bx_apart3 hx | have hd := bx_apart2 hx | have hd := trivial)))
        all_goals
          go_ret
          exact ⟨ret_b (by simp; try omega), hb0.trans (hx.1.mono hb0.size)⟩
      · clear hK
        go_wp2_with (first | (go_at_call 67; (with_reducible refine (M _).mono ?_); rintro e w2 ⟨rfl, hb⟩; replace hx := (Bx.below hx hb).box (x) (y) 46; clear hb; (try clear hf hd); (have hf := hx.2.2; simp only [List.forall_mem_cons, List.not_mem_nil, false_imp_iff, implies_true, and_true, Bx1] at hf; first | have hd := bx_apart4 hx | have hd := bx_apart3 hx | have hd := bx_apart2 hx | have hd := trivial)) | (go_at_call 66; (with_reducible refine (S _).mono ?_); rintro e w2 ⟨rfl, hb⟩; replace hx := (Bx.below hx hb).box (x) (y) 46; clear hb; (try clear hf hd); (have hf := hx.2.2; simp only [List.forall_mem_cons, List.not_mem_nil, false_imp_iff, implies_true, and_true, Bx1] at hf; first | have hd := bx_apart4 hx | have hd := bx_apart3 hx | have hd := bx_apart2 hx | have hd := trivial)))
        all_goals
          go_ret
          exact ⟨ret_b (by simp; try omega), hb0.trans (hx.1.mono hb0.size)⟩

/-! The frame: after the kit's own shell (proof-skeleton). -/
theorem own : ownKnob Try.prog.godebug = none := by kernel_rfl
theorem laidOut : laidOutB Try.prog = true := by kernel_rfl

set_option linter.unusedVariables false in
set_option maxRecDepth 100000 in
theorem lifted (os : Os) (started : os.Started) (H : Type) (enc : TypeId × Value → H) :
    ReturnsInHanded {} Try.checked os 19 .any (Rows.fnLevelVectorSpec.pre6 enc Try.prog Try.f19 Rows.fnLevelVectorRow.domain false) (Rows.fnLevelVectorSpec.post enc Try.prog Try.f19 false true false false) := by
  refine returnsInHanded_of_change (C := Try.checked) own started (by kernel_rfl) Try.func19
    (ChangeSpec.witness6 (enc := enc) (C := Try.checked) false ⟨#[], #[.slice none 0 0], []⟩ 8 (by kernel_rfl) (by kernel_rfl) (by kernel_rfl) (by kernel_rfl)) ?_
  intro W base args ds gs before hval0 hW hcnd _
  have hval : ∀ (j : Nat) t v, Try.f19.params[j]? = some t → args[j]? = some v → Value.okWide Try.prog W .any base t v := hval0
  have hW' := hW
  obtain ⟨p, q, hA0, hV, rfl, hfz, hnd⟩ := hW
  have hA : DataW.TrodAll enc Try.prog W 0 (fun _ => true) true Try.f19.params.toList args.toList ds p := hA0
  rw [Try.params19] at hA hval
  obtain ⟨v0, vs0, d0, ds0, p0, q0, hargs, rfl, rfl, h0, r0⟩ := trodAll_cons hA
  obtain ⟨rfl, rfl, rfl⟩ := trodAll_nil r0
  obtain rfl : args = #[v0] := by cases args; simp_all
  obtain ⟨rfl, rfl⟩ := trodVars_none hV
  have k0 := h0
  have lt0 : ∀ x ∈ p0, x.block < W.heap.size := by obtain ⟨m, hm⟩ := k0; exact DataW.trod_lt m _ _ _ hm
  obtain ⟨a0, len0, cap0, rfl⟩ := okWide_slice Try.underlying22 (hval 0 22 v0 rfl rfl)
  obtain ⟨z0, w0⟩ : ∃ zs, Row8 W W.heap.size a0 len0 cap0 zs := by
    obtain ⟨fuel, hf⟩ := h0
    rcases open_ints Try.underlying22 Try.underlying5 (by kernel_rfl) hf with ⟨hcs, _⟩ | ⟨x, l, c, zs, hcs, _, hl, hm, hz, _, hcell, hwz⟩
    · simp [Value.cells] at hcs
      obtain ⟨rfl, rfl, rfl⟩ := hcs
      exact ⟨fun _ => 0, Row8.nil W _⟩
    · simp [Value.cells] at hcs
      obtain ⟨rfl, rfl, rfl⟩ := hcs
      exact ⟨_, Row8.of_ints hl hm (by simpa using hz) hcell hwz⟩
  clear hA0 hval0
  refine (walk a0 len0 cap0 z0 W w0).mono fun e W' ⟨he, bel⟩ => ?_
  subst he
  exact ⟨_, rfl, _, _, _, [], _, [], hW', trodAll_mk1 (shut_bool Try.underlying4 _), (trodAll_cons_mk (Below.trod laidOut (by kernel_rfl) (of_decide_eq_true (by kernel_rfl)) k0 bel lt0) trodAll_mk0), rfl, bel.frame _, fun h => by cases h⟩

set_option maxRecDepth 100000 in
theorem closed : joinedFacts Try.prog 19 Try.f19 Rows.fnLevelVectorSpec Rows.fnLevelVectorRow = true := by
  unfold joinedFacts
  rw [mayEnter_ok, liftsFinal_ok, make_ok]
  kernel_rfl

theorem over : Rows.fnLevelVectorRow.holds Try.pinned (OpenSpec.ofChange Rows.fnLevelVectorSpec) :=
  OpenClaim.holds_of_wide 19 Try.f19 rfl rfl rfl rfl rfl rfl rfl ⟨rfl, rfl, rfl, rfl, rfl⟩ rfl rfl rfl rfl rfl (by kernel_rfl) Try.func19 closed
    (of_decide_eq_true (by kernel_rfl)) (by unfold Func.isWrapper; first | (rw [if_pos (by decide +kernel)]; kernel_rfl) | (rw [if_neg (by decide +kernel)]; exact ⟨rfl, rfl⟩))
    (fun os started H enc _ => lifted os started H enc)

/-- The statement. -/
theorem proved : Rows.FnLevelVectorSaid := over
#print axioms proved

end Go.Proofs.Ytmjmafgjejphbaa.fnLevelVector
