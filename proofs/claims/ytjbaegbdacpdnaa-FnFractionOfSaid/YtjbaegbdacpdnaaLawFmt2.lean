/-
  What the laws on conversions, fractions and roots need of the functions, each as one bundle.
-/
import Derived.Test.YtjbaegbdacpdnaaLawFmt
import Derived.Test.YtjbaegbdacpdnaaFmtOne
namespace Go.Proofs.Ytjbaegbdacpdnaa
open Go.RowKit

abbrev Vld (W P : Int) : Prop := (1 ≤ W ∧ W ≤ 12) ∧ 0 ≤ P ∧ P ≤ 16
/-- A function returns a number and makes blocks of its own alone. -/
abbrev GivesI (P : Program) (f : FuncId) (args : Array Value) (x : Int) : Prop := ∀ w : World, Calls P f args w fun e w' => e = .returned (.int .i64 x) ∧ Below w.heap.size w w'

theorem whole_pack (W P n : Int) (h : Fits W P n) : ∃ (x y : Int) (k : Bool),
    GivesI Try.prog 55 #[.agg #[.int .i64 W, .int .i64 P], .int .i64 n] x ∧
    GivesI Try.prog 56 #[.agg #[.int .i64 W, .int .i64 P], .int .i64 n] x ∧
    Gives Try.prog 31 #[.int .i64 n, .agg #[.int .i64 W, .int .i64 P], .agg #[.int .i64 W, .int .i64 0]] y k ∧
    (k = true → x = y) ∧ (-268435456 ≤ x ∧ x ≤ 268435456) ∧ -2 ^ P.toNat ≤ 2 * (x * 2 ^ P.toNat - n) ∧ 2 * (x * 2 ^ P.toNat - n) ≤ 2 ^ P.toNat := by
  have hv : Vld W 0 := ⟨h.1.1, by omega, by omega⟩
  have hw := fits_work h
  have hT : ∀ w, _ := fun w => toFormat_yes n W P W 0 w h hv
  rw [Fx.toFmt_zero n P h.1.2.1] at hT
  obtain ⟨g1, g2, -⟩ := Fx.rnd_spec n (2 ^ P.toNat) (Fx.one_le_pow _)
  have hb : -268435456 ≤ Fx.rnd n (2 ^ P.toNat) ∧ Fx.rnd n (2 ^ P.toNat) ≤ 268435456 := by
    have hq := Fx.ediv_bounds n (2 ^ P.toNat) hw.2.1 268435456 (by omega) (by omega)
    have e := Int.emod_add_mul_ediv n (2 ^ P.toNat)
    have l0 := Int.emod_nonneg n (show (2 : Int) ^ P.toNat ≠ 0 by omega)
    have hm := Fx.rnd_mono n 268435456 _ hw.2.1 (by omega)
    have hm2 := Fx.rnd_mono (-268435456) n _ hw.2.1 (by omega)
    have h3 : Fx.rnd 268435456 (2 ^ P.toNat) ≤ 268435456 := by
      apply Int.le_of_not_gt; intro hc
      have s := Fx.rnd_spec 268435456 (2 ^ P.toNat) hw.2.1
      have : 268435457 * 2 ^ P.toNat ≤ Fx.rnd 268435456 (2 ^ P.toNat) * 2 ^ P.toNat := Int.mul_le_mul_of_nonneg_right (by omega) (by omega)
      omega
    rw [show (-268435456 : Int) = -(268435456) from rfl, Fx.rnd_neg _ _ hw.2.1] at hm2
    omega
  exact ⟨_, _, _, fun w => wholeOf_yes W P n w h, fun w => s_wholeOf_yes W P n w h, hT, fun hk => (cut_same hk).symm, hb, by omega, by omega⟩

theorem toFormat_pack (n W P V Q : Int) (h : Fits W P n) (hv : Vld V Q) : ∃ (x y : Int) (k j : Bool),
    Gives Try.prog 31 #[.int .i64 n, .agg #[.int .i64 W, .int .i64 P], .agg #[.int .i64 V, .int .i64 Q]] x k ∧
    Gives Try.prog 30 #[.int .i64 n, .agg #[.int .i64 W, .int .i64 P], .agg #[.int .i64 V, .int .i64 Q]] x k ∧
    Gives Try.prog 31 #[.int .i64 n, .agg #[.int .i64 W, .int .i64 P], .agg #[.int .i64 W, .int .i64 P]] n true ∧
    Gives Try.prog 31 #[.int .i64 x, .agg #[.int .i64 V, .int .i64 Q], .agg #[.int .i64 W, .int .i64 P]] y j ∧
    Fits V Q x ∧ (W ≤ V ∧ P ≤ Q → k = true ∧ j = true ∧ y = n) ∧
    (k = true → -(65536 / 2 ^ Q.toNat) ≤ 2 * (x * 65536 / 2 ^ Q.toNat - n * 65536 / 2 ^ P.toNat) ∧ 2 * (x * 65536 / 2 ^ Q.toNat - n * 65536 / 2 ^ P.toNat) ≤ 65536 / 2 ^ Q.toNat) := by
  have hX : Fits V Q (Fx.cut V Q (Fx.toFmt n P Q)) := fits_cut hv _
  refine ⟨_, _, _, _, fun w => toFormat_yes n W P V Q w h hv, fun w => s_toFormat_yes n W P V Q w h hv, ?_, fun w => toFormat_yes _ V Q W P w hX h.1, hX, ?_, ?_⟩
  · have hT := fun w => toFormat_yes n W P W P w h h.1
    rw [Fx.toFmt_same, Fx.cut_in h.2, beq_self_eq_true] at hT
    exact hT
  · rintro ⟨h1, h2⟩
    have hf := Fx.toFmt_fits h1 h2 (by have := h.1; omega) h.1.2.1 h.2
    rw [Fx.cut_in hf, Fx.toFmt_back n P Q h2, Fx.cut_in h.2]
    simp
  · intro hk
    rw [cut_same hk, Fx.shl_shr _ Q hv.2, Fx.shl_shr _ P h.1.2, Fx.one_shr Q hv.2]
    exact Fx.toFmt_far n P Q h.1.2 hv.2

theorem toFormat_some (n W P V Q : Int) : ∃ (x : Int) (k : Bool),
    Gives Try.prog 31 #[.int .i64 n, .agg #[.int .i64 W, .int .i64 P], .agg #[.int .i64 V, .int .i64 Q]] x k ∧
    Gives Try.prog 30 #[.int .i64 n, .agg #[.int .i64 W, .int .i64 P], .agg #[.int .i64 V, .int .i64 Q]] x k := by
  by_cases h : (((1 ≤ W ∧ W ≤ 12) ∧ 0 ≤ P ∧ P ≤ 16) ∧ -2 ^ (W + P).toNat ≤ n ∧ n ≤ 2 ^ (W + P).toNat - 1) ∧ (1 ≤ V ∧ V ≤ 12) ∧ 0 ≤ Q ∧ Q ≤ 16
  · exact ⟨_, _, fun w => toFormat_yes n W P V Q w h.1 h.2, fun w => s_toFormat_yes n W P V Q w h.1 h.2⟩
  · exact ⟨_, _, fun w => toFormat_no n W P V Q w h, fun w => s_toFormat_no n W P V Q w h⟩

theorem chain_pack (n W P V Q T R : Int) (h : Fits W P n) (hr : Vld T R) (h1 : W ≤ T) (h2 : P ≤ R) : ∃ (x m : Int) (k : Bool),
    Gives Try.prog 31 #[.int .i64 n, .agg #[.int .i64 W, .int .i64 P], .agg #[.int .i64 V, .int .i64 Q]] x k ∧
    Gives Try.prog 30 #[.int .i64 n, .agg #[.int .i64 W, .int .i64 P], .agg #[.int .i64 V, .int .i64 Q]] x k ∧
    Gives Try.prog 31 #[.int .i64 n, .agg #[.int .i64 W, .int .i64 P], .agg #[.int .i64 T, .int .i64 R]] m true ∧
    Gives Try.prog 31 #[.int .i64 m, .agg #[.int .i64 T, .int .i64 R], .agg #[.int .i64 V, .int .i64 Q]] x k := by
  have hf := Fx.toFmt_fits h1 h2 (by have := h.1; omega) h.1.2.1 h.2
  have hM : Fits T R (Fx.toFmt n P R) := ⟨hr, hf⟩
  have hT := fun w => toFormat_yes n W P T R w h hr
  rw [Fx.cut_in hf, beq_self_eq_true] at hT
  by_cases hv : Vld V Q
  · have hB := fun w => toFormat_yes (Fx.toFmt n P R) T R V Q w hM hv
    rw [Fx.toFmt_chain n P R Q h2] at hB
    exact ⟨_, _, _, fun w => toFormat_yes n W P V Q w h hv, fun w => s_toFormat_yes n W P V Q w h hv, hT, hB⟩
  · exact ⟨_, _, _, fun w => toFormat_no n W P V Q w (fun hh => hv hh.2), fun w => s_toFormat_no n W P V Q w (fun hh => hv hh.2), hT, fun w => toFormat_no _ T R V Q w (fun hh => hv hh.2)⟩

theorem chain_all (n W P V Q : Int) : ∃ (x : Int) (k : Bool),
    Gives Try.prog 31 #[.int .i64 n, .agg #[.int .i64 W, .int .i64 P], .agg #[.int .i64 V, .int .i64 Q]] x k ∧
    Gives Try.prog 30 #[.int .i64 n, .agg #[.int .i64 W, .int .i64 P], .agg #[.int .i64 V, .int .i64 Q]] x k ∧
    ∀ T R : Int, Fits W P n → Vld T R → W ≤ T → P ≤ R → ∃ m : Int,
      Gives Try.prog 31 #[.int .i64 n, .agg #[.int .i64 W, .int .i64 P], .agg #[.int .i64 T, .int .i64 R]] m true ∧
      Gives Try.prog 31 #[.int .i64 m, .agg #[.int .i64 T, .int .i64 R], .agg #[.int .i64 V, .int .i64 Q]] x k := by
  have mid : ∀ T R : Int, Fits W P n → Vld T R → W ≤ T → P ≤ R → Gives Try.prog 31 #[.int .i64 n, .agg #[.int .i64 W, .int .i64 P], .agg #[.int .i64 T, .int .i64 R]] (Fx.toFmt n P R) true ∧ Fits T R (Fx.toFmt n P R) := by
    intro T R h hr h1 h2
    have hf := Fx.toFmt_fits h1 h2 (by have := h.1; omega) h.1.2.1 h.2
    have hT := fun w => toFormat_yes n W P T R w h hr
    rw [Fx.cut_in hf, beq_self_eq_true] at hT
    exact ⟨hT, hr, hf⟩
  by_cases h : (((1 ≤ W ∧ W ≤ 12) ∧ 0 ≤ P ∧ P ≤ 16) ∧ -2 ^ (W + P).toNat ≤ n ∧ n ≤ 2 ^ (W + P).toNat - 1) ∧ (1 ≤ V ∧ V ≤ 12) ∧ 0 ≤ Q ∧ Q ≤ 16
  · refine ⟨_, _, fun w => toFormat_yes n W P V Q w h.1 h.2, fun w => s_toFormat_yes n W P V Q w h.1 h.2, fun T R hf hr h1 h2 => ⟨_, (mid T R hf hr h1 h2).1, ?_⟩⟩
    have hB := fun w => toFormat_yes (Fx.toFmt n P R) T R V Q w (mid T R hf hr h1 h2).2 h.2
    rw [Fx.toFmt_chain n P R Q h2] at hB
    exact hB
  · exact ⟨_, _, fun w => toFormat_no n W P V Q w h, fun w => s_toFormat_no n W P V Q w h, fun T R hf hr h1 h2 => ⟨_, (mid T R hf hr h1 h2).1, fun w => toFormat_no _ T R V Q w (fun hh => h ⟨hf, hh.2⟩)⟩⟩

theorem Hold.box {w W : World} {L : List (Nat × Nat × Value)} (h : Hold w L W) (v u : Value) (T : TypeId) : Hold w ((W.heap.size, 0, v) :: (W.heap.size, 1, u) :: L) (W.alloc (.cells #[v, u] T)) := by
  have h2 := h.below ((Below.refl _ _).alloc (Nat.le_refl _) (.cells #[v, u] T))
  refine ⟨h2.1, fun x hx => ?_⟩
  rcases List.mem_cons.mp hx with rfl | hx
  · exact ⟨by simp, by rw [World.cell?_alloc_at (w := W) _ T _ _ rfl]; rfl⟩
  rcases List.mem_cons.mp hx with rfl | hx
  · exact ⟨by simp, by rw [World.cell?_alloc_at (w := W) _ T _ _ rfl]; rfl⟩
  · exact h2.2 x hx

theorem frac_pack (W P n m : Int) (hv : Vld W P) (hn : -1099511627776 ≤ n ∧ n ≤ 1099511627776) (hm : 1 ≤ m ∧ m ≤ 1099511627776) : ∃ (x : Int) (k : Bool),
    Gives Try.prog 29 #[.agg #[.int .i64 W, .int .i64 P], .int .i64 n, .int .i64 m] x k ∧
    Gives Try.prog 27 #[.agg #[.int .i64 W, .int .i64 P], .int .i64 n, .int .i64 m] x k ∧
    ((-549755813888 ≤ n ∧ n ≤ 549755813888) ∧ m ≤ 549755813888 → Gives Try.prog 29 #[.agg #[.int .i64 W, .int .i64 P], .int .i64 (2 * n), .int .i64 (2 * m)] x k) ∧
    Fits W P x ∧ (k = true → -m ≤ 2 * (n * 2 ^ P.toNat - x * m) ∧ 2 * (n * 2 ^ P.toNat - x * m) ≤ m) := by
  refine ⟨_, _, fun w => fractionOf_yes W P n m w hv hn hm, fun w => s_fractionOf_yes W P n m w hv hn hm, ?_, fits_cut hv _, ?_⟩
  · rintro ⟨h1, h2⟩
    have := fun w => fractionOf_yes W P (2 * n) (2 * m) w hv (by omega) (by omega)
    rw [Fx.fracOf_two P n m hm.1] at this
    exact this
  · intro hk
    rw [cut_same hk]
    obtain ⟨g1, g2, -⟩ := Fx.rnd_spec (n * 2 ^ P.toNat) m hm.1
    exact ⟨g1, g2⟩

theorem fracmul_pack (W P n : Int) (h : Fits W P n) :
    Gives Try.prog 29 #[.agg #[.int .i64 W, .int .i64 P], .int .i64 n, .int .i64 (2 ^ P.toNat)] n true := by
  have hw := fits_work h
  have := fun w => fractionOf_yes W P n (2 ^ P.toNat) w h.1 (by omega) (by omega)
  rw [Fx.fracOf_one, Fx.cut_in h.2, beq_self_eq_true] at this
  exact this

theorem root_pack (W P a : Int) (h : Fits W P a) (h0 : 0 ≤ a) : ∃ (x y : Int),
    Gives Try.prog 62 #[.agg #[.int .i64 W, .int .i64 P], .int .i64 a] x true ∧
    Gives Try.prog 63 #[.agg #[.int .i64 W, .int .i64 P], .int .i64 a] x true ∧
    Gives Try.prog 33 #[.agg #[.int .i64 W, .int .i64 P], .int .i64 x, .int .i64 x] y true ∧ y ≤ a := by
  have hr := root_work h h0
  obtain ⟨s0, s1, s2⟩ := Fx.isqrt_spec _ hr.1 hr.2
  have hp := Fx.one_le_pow P.toNat
  have hw := Fx.one_le_pow W.toNat
  have hx : Fx.isqrt (a * 2 ^ P.toNat) < 2 ^ (W + P).toNat := by
    apply Fx.sq_lt _ (by have := Fx.one_le_pow (W + P).toNat; omega)
    have h1 : a * 2 ^ P.toNat < 2 ^ (W + P).toNat * 2 ^ P.toNat := Int.mul_lt_mul_of_pos_right (by have := h.2.2; omega) (by omega)
    have h2 : (2 : Int) ^ (W + P).toNat * 2 ^ P.toNat ≤ 2 ^ (W + P).toNat * 2 ^ (W + P).toNat := Int.mul_le_mul_of_nonneg_left (Fx.pow_le_pow (by have := h.1; omega)) (by have := Fx.one_le_pow (W + P).toNat; omega)
    omega
  have hX : Fits W P (Fx.isqrt (a * 2 ^ P.toNat)) := ⟨h.1, by have := Fx.one_le_pow (W + P).toNat; omega, by omega⟩
  have hle : Fx.mulOf P (Fx.isqrt (a * 2 ^ P.toNat)) (Fx.isqrt (a * 2 ^ P.toNat)) ≤ a := by
    have := Fx.rnd_mono _ _ (2 ^ P.toNat) hp s1
    rw [Fx.rnd_mul a _ hp] at this
    exact this
  have hge : 0 ≤ Fx.mulOf P (Fx.isqrt (a * 2 ^ P.toNat)) (Fx.isqrt (a * 2 ^ P.toNat)) := by
    have := Fx.rnd_mono 0 _ (2 ^ P.toNat) hp (Int.mul_nonneg s0 s0)
    have e : Fx.rnd 0 (2 ^ P.toNat) = 0 := by have := Fx.rnd_mul 0 _ hp; rwa [Int.zero_mul] at this
    rw [e] at this
    exact this
  have hm := fun w => mulStored_yes W P _ _ w hX hX
  rw [Fx.cut_in (by have := h.2; have := Fx.one_le_pow (W + P).toNat; omega), beq_self_eq_true] at hm
  exact ⟨_, _, fun w => sqrtStored_yes W P a w h h0, fun w => s_sqrtStored_yes W P a w h h0, hm, hle⟩

end Go.Proofs.Ytjbaegbdacpdnaa
