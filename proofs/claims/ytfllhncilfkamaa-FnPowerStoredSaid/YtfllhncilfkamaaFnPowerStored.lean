/- Powers of whole numbers are powers: FnPowerStored returns true for every code, and reads it alone. No condition. -/
import Derived.Test.YtfllhncilfkamaaLawPow
import Derived.ShutString
import Derived.ChangeOld
namespace Go.Proofs.Ytfllhncilfkamaa.fnPowerStored
open Go.ChangeShapes Go.WideShapes Go.ChangeAt Go.RowKit

set_option maxHeartbeats 8000000 in
theorem walk (a : Option Addr) (len cap : Nat) (zs : Nat → Int) (w : World) (h : Row8 w w.heap.size a len cap zs) :
    Calls Try.prog 18 #[.slice a len cap] w fun e w' => e = .returned (.bool true) ∧ Below w.heap.size w w' := by
  have hl : len ≤ 9223372036854775807 := Nat.le_trans h.1 h.2.1
  have H := Lib.hid h
  clear h
  by_cases hlen : 1048576 < len
  · go_enter Try.func18, Try.ntmps18
    go_wp2
    go_ret
    exact ⟨rfl, Below.refl _ _⟩
  · go_enter Try.func18, Try.ntmps18
    go_wp2_with fail
    refine (drawPowerStored_any _ _ _ _ _ H.out).mono ?_
    rintro e u ⟨W, P, n, rfl, hb0⟩
    clear H
    have hx := hold_two u (.int .i64 W) (.int .i64 P) 52
    by_cases hf : Fx.Fits W P n
    · obtain ⟨x, k, M1, S1, hr, hw, y, m, M2, hnext⟩ := pow_pack W P n hf
      obtain ⟨-, ⟨w3, w4⟩, b1, b2, -, -, -⟩ := Fx.pow_parts hf
      have hrest := Fx.rest_is n P
      have hq : (1 ≤ W ∧ W ≤ 12) ∧ 0 ≤ P ∧ P ≤ 16 := hf.1
      have hp := Fx.pow_16 (k := P.toNat) (by omega)
      have hn : -268435456 ≤ n ∧ n ≤ 268435456 := by
        have := Fx.pow_28 (k := (W + P).toNat) (by omega)
        have h2 : -2 ^ (W + P).toNat ≤ n ∧ n ≤ 2 ^ (W + P).toNat - 1 := hf.2
        omega
      have hp1 := Fx.one_le_pow (W + P).toNat
      have hxf : Fx.Fits W P x := ⟨hf.1, by omega, hr.2⟩
      have A1 := Lib.hid hf
      have AX := Lib.hid hxf
      have hx0 : 0 ≤ x := hr.1
      clear hf hxf hp1 hr
      (have hf := hx.2; simp only [List.forall_mem_cons, List.not_mem_nil, false_imp_iff, implies_true, and_true] at hf)
      by_cases h5 : n / 2 ^ P.toNat * 2 ^ P.toNat = n
      · by_cases h6 : 0 ≤ n / 2 ^ P.toNat
        · by_cases h7 : n / 2 ^ P.toNat < W
          · obtain ⟨rfl, hX⟩ := hw h5 h6 h7
            have hs : 0 ≤ n / 2 ^ P.toNat + P ∧ n / 2 ^ P.toNat + P ≤ 60 := by omega
            have hsp := Fx.two_pow_le (n / 2 ^ P.toNat + P).toNat (by omega)
            have e5 : (n / 2 ^ P.toNat * 2 ^ P.toNat == n) = true := by simpa using h5
            subst hX
            clear hw
            by_cases h2 : Fx.Fits W P (n + 1)
            · have hm := hnext h2
              have A2 := Lib.hid h2
              clear hnext h2
              go_wp2_with (first | (go_at_call 47; (with_reducible refine (M1 _).mono ?_); rintro e w1 ⟨rfl, hb⟩; replace hx := hx.below hb; clear hb; (try clear hf); (have hf := hx.2; simp only [List.forall_mem_cons, List.not_mem_nil, false_imp_iff, implies_true, and_true] at hf)) | (go_at_call 45; (with_reducible refine (S1 _).mono ?_); rintro e w1 ⟨rfl, hb⟩; replace hx := hx.below hb; clear hb; (try clear hf); (have hf := hx.2; simp only [List.forall_mem_cons, List.not_mem_nil, false_imp_iff, implies_true, and_true] at hf)) | (go_at_call 47; (with_reducible refine (M2 _).mono ?_); rintro e w1 ⟨rfl, hb⟩; replace hx := hx.below hb; clear hb; (try clear hf); (have hf := hx.2; simp only [List.forall_mem_cons, List.not_mem_nil, false_imp_iff, implies_true, and_true] at hf)) | (go_at_call 49; (with_reducible refine (s_storedFits_yes _ _ _ _ A1.out).mono ?_); rintro e w1 ⟨rfl, hb⟩; replace hx := hx.below hb; clear hb; (try clear hf); (have hf := hx.2; simp only [List.forall_mem_cons, List.not_mem_nil, false_imp_iff, implies_true, and_true] at hf)) | (go_at_call 50; (with_reducible refine (storedFits_yes _ _ _ _ AX.out).mono ?_); rintro e w1 ⟨rfl, hb⟩; replace hx := hx.below hb; clear hb; (try clear hf); (have hf := hx.2; simp only [List.forall_mem_cons, List.not_mem_nil, false_imp_iff, implies_true, and_true] at hf)) | (go_at_call 50; (with_reducible refine (storedFits_yes _ _ _ _ A2.out).mono ?_); rintro e w1 ⟨rfl, hb⟩; replace hx := hx.below hb; clear hb; (try clear hf); (have hf := hx.2; simp only [List.forall_mem_cons, List.not_mem_nil, false_imp_iff, implies_true, and_true] at hf)))
              go_ret
              exact ⟨ret_b (by simp; try omega), hb0.trans (hx.1.mono hb0.size)⟩
            · have A2 := Lib.hid h2
              clear hnext h2
              go_wp2_with (first | (go_at_call 47; (with_reducible refine (M1 _).mono ?_); rintro e w1 ⟨rfl, hb⟩; replace hx := hx.below hb; clear hb; (try clear hf); (have hf := hx.2; simp only [List.forall_mem_cons, List.not_mem_nil, false_imp_iff, implies_true, and_true] at hf)) | (go_at_call 45; (with_reducible refine (S1 _).mono ?_); rintro e w1 ⟨rfl, hb⟩; replace hx := hx.below hb; clear hb; (try clear hf); (have hf := hx.2; simp only [List.forall_mem_cons, List.not_mem_nil, false_imp_iff, implies_true, and_true] at hf)) | (go_at_call 47; (with_reducible refine (M2 _).mono ?_); rintro e w1 ⟨rfl, hb⟩; replace hx := hx.below hb; clear hb; (try clear hf); (have hf := hx.2; simp only [List.forall_mem_cons, List.not_mem_nil, false_imp_iff, implies_true, and_true] at hf)) | (go_at_call 49; (with_reducible refine (s_storedFits_yes _ _ _ _ A1.out).mono ?_); rintro e w1 ⟨rfl, hb⟩; replace hx := hx.below hb; clear hb; (try clear hf); (have hf := hx.2; simp only [List.forall_mem_cons, List.not_mem_nil, false_imp_iff, implies_true, and_true] at hf)) | (go_at_call 50; (with_reducible refine (storedFits_yes _ _ _ _ AX.out).mono ?_); rintro e w1 ⟨rfl, hb⟩; replace hx := hx.below hb; clear hb; (try clear hf); (have hf := hx.2; simp only [List.forall_mem_cons, List.not_mem_nil, false_imp_iff, implies_true, and_true] at hf)) | (go_at_call 50; (with_reducible refine (storedFits_no _ _ _ _ A2.out).mono ?_); rintro e w1 ⟨rfl, hb⟩; replace hx := hx.below hb; clear hb; (try clear hf); (have hf := hx.2; simp only [List.forall_mem_cons, List.not_mem_nil, false_imp_iff, implies_true, and_true] at hf)))
              go_ret
              exact ⟨ret_b (by simp; try omega), hb0.trans (hx.1.mono hb0.size)⟩
          · have e5 : (n / 2 ^ P.toNat * 2 ^ P.toNat == n) = true := by simpa using h5
            clear hw
            cases k
            all_goals
              by_cases h2 : Fx.Fits W P (n + 1)
              · have hm := hnext h2
                have A2 := Lib.hid h2
                clear hnext h2
                go_wp2_with (first | (go_at_call 47; (with_reducible refine (M1 _).mono ?_); rintro e w1 ⟨rfl, hb⟩; replace hx := hx.below hb; clear hb; (try clear hf); (have hf := hx.2; simp only [List.forall_mem_cons, List.not_mem_nil, false_imp_iff, implies_true, and_true] at hf)) | (go_at_call 45; (with_reducible refine (S1 _).mono ?_); rintro e w1 ⟨rfl, hb⟩; replace hx := hx.below hb; clear hb; (try clear hf); (have hf := hx.2; simp only [List.forall_mem_cons, List.not_mem_nil, false_imp_iff, implies_true, and_true] at hf)) | (go_at_call 47; (with_reducible refine (M2 _).mono ?_); rintro e w1 ⟨rfl, hb⟩; replace hx := hx.below hb; clear hb; (try clear hf); (have hf := hx.2; simp only [List.forall_mem_cons, List.not_mem_nil, false_imp_iff, implies_true, and_true] at hf)) | (go_at_call 49; (with_reducible refine (s_storedFits_yes _ _ _ _ A1.out).mono ?_); rintro e w1 ⟨rfl, hb⟩; replace hx := hx.below hb; clear hb; (try clear hf); (have hf := hx.2; simp only [List.forall_mem_cons, List.not_mem_nil, false_imp_iff, implies_true, and_true] at hf)) | (go_at_call 50; (with_reducible refine (storedFits_yes _ _ _ _ AX.out).mono ?_); rintro e w1 ⟨rfl, hb⟩; replace hx := hx.below hb; clear hb; (try clear hf); (have hf := hx.2; simp only [List.forall_mem_cons, List.not_mem_nil, false_imp_iff, implies_true, and_true] at hf)) | (go_at_call 50; (with_reducible refine (storedFits_yes _ _ _ _ A2.out).mono ?_); rintro e w1 ⟨rfl, hb⟩; replace hx := hx.below hb; clear hb; (try clear hf); (have hf := hx.2; simp only [List.forall_mem_cons, List.not_mem_nil, false_imp_iff, implies_true, and_true] at hf)))
                go_ret
                exact ⟨ret_b (by simp; try omega), hb0.trans (hx.1.mono hb0.size)⟩
              · have A2 := Lib.hid h2
                clear hnext h2
                go_wp2_with (first | (go_at_call 47; (with_reducible refine (M1 _).mono ?_); rintro e w1 ⟨rfl, hb⟩; replace hx := hx.below hb; clear hb; (try clear hf); (have hf := hx.2; simp only [List.forall_mem_cons, List.not_mem_nil, false_imp_iff, implies_true, and_true] at hf)) | (go_at_call 45; (with_reducible refine (S1 _).mono ?_); rintro e w1 ⟨rfl, hb⟩; replace hx := hx.below hb; clear hb; (try clear hf); (have hf := hx.2; simp only [List.forall_mem_cons, List.not_mem_nil, false_imp_iff, implies_true, and_true] at hf)) | (go_at_call 47; (with_reducible refine (M2 _).mono ?_); rintro e w1 ⟨rfl, hb⟩; replace hx := hx.below hb; clear hb; (try clear hf); (have hf := hx.2; simp only [List.forall_mem_cons, List.not_mem_nil, false_imp_iff, implies_true, and_true] at hf)) | (go_at_call 49; (with_reducible refine (s_storedFits_yes _ _ _ _ A1.out).mono ?_); rintro e w1 ⟨rfl, hb⟩; replace hx := hx.below hb; clear hb; (try clear hf); (have hf := hx.2; simp only [List.forall_mem_cons, List.not_mem_nil, false_imp_iff, implies_true, and_true] at hf)) | (go_at_call 50; (with_reducible refine (storedFits_yes _ _ _ _ AX.out).mono ?_); rintro e w1 ⟨rfl, hb⟩; replace hx := hx.below hb; clear hb; (try clear hf); (have hf := hx.2; simp only [List.forall_mem_cons, List.not_mem_nil, false_imp_iff, implies_true, and_true] at hf)) | (go_at_call 50; (with_reducible refine (storedFits_no _ _ _ _ A2.out).mono ?_); rintro e w1 ⟨rfl, hb⟩; replace hx := hx.below hb; clear hb; (try clear hf); (have hf := hx.2; simp only [List.forall_mem_cons, List.not_mem_nil, false_imp_iff, implies_true, and_true] at hf)))
                go_ret
                exact ⟨ret_b (by simp; try omega), hb0.trans (hx.1.mono hb0.size)⟩
        · have e5 : (n / 2 ^ P.toNat * 2 ^ P.toNat == n) = true := by simpa using h5
          clear hw
          cases k
          all_goals
            by_cases h2 : Fx.Fits W P (n + 1)
            · have hm := hnext h2
              have A2 := Lib.hid h2
              clear hnext h2
              go_wp2_with (first | (go_at_call 47; (with_reducible refine (M1 _).mono ?_); rintro e w1 ⟨rfl, hb⟩; replace hx := hx.below hb; clear hb; (try clear hf); (have hf := hx.2; simp only [List.forall_mem_cons, List.not_mem_nil, false_imp_iff, implies_true, and_true] at hf)) | (go_at_call 45; (with_reducible refine (S1 _).mono ?_); rintro e w1 ⟨rfl, hb⟩; replace hx := hx.below hb; clear hb; (try clear hf); (have hf := hx.2; simp only [List.forall_mem_cons, List.not_mem_nil, false_imp_iff, implies_true, and_true] at hf)) | (go_at_call 47; (with_reducible refine (M2 _).mono ?_); rintro e w1 ⟨rfl, hb⟩; replace hx := hx.below hb; clear hb; (try clear hf); (have hf := hx.2; simp only [List.forall_mem_cons, List.not_mem_nil, false_imp_iff, implies_true, and_true] at hf)) | (go_at_call 49; (with_reducible refine (s_storedFits_yes _ _ _ _ A1.out).mono ?_); rintro e w1 ⟨rfl, hb⟩; replace hx := hx.below hb; clear hb; (try clear hf); (have hf := hx.2; simp only [List.forall_mem_cons, List.not_mem_nil, false_imp_iff, implies_true, and_true] at hf)) | (go_at_call 50; (with_reducible refine (storedFits_yes _ _ _ _ AX.out).mono ?_); rintro e w1 ⟨rfl, hb⟩; replace hx := hx.below hb; clear hb; (try clear hf); (have hf := hx.2; simp only [List.forall_mem_cons, List.not_mem_nil, false_imp_iff, implies_true, and_true] at hf)) | (go_at_call 50; (with_reducible refine (storedFits_yes _ _ _ _ A2.out).mono ?_); rintro e w1 ⟨rfl, hb⟩; replace hx := hx.below hb; clear hb; (try clear hf); (have hf := hx.2; simp only [List.forall_mem_cons, List.not_mem_nil, false_imp_iff, implies_true, and_true] at hf)))
              go_ret
              exact ⟨ret_b (by simp; try omega), hb0.trans (hx.1.mono hb0.size)⟩
            · have A2 := Lib.hid h2
              clear hnext h2
              go_wp2_with (first | (go_at_call 47; (with_reducible refine (M1 _).mono ?_); rintro e w1 ⟨rfl, hb⟩; replace hx := hx.below hb; clear hb; (try clear hf); (have hf := hx.2; simp only [List.forall_mem_cons, List.not_mem_nil, false_imp_iff, implies_true, and_true] at hf)) | (go_at_call 45; (with_reducible refine (S1 _).mono ?_); rintro e w1 ⟨rfl, hb⟩; replace hx := hx.below hb; clear hb; (try clear hf); (have hf := hx.2; simp only [List.forall_mem_cons, List.not_mem_nil, false_imp_iff, implies_true, and_true] at hf)) | (go_at_call 47; (with_reducible refine (M2 _).mono ?_); rintro e w1 ⟨rfl, hb⟩; replace hx := hx.below hb; clear hb; (try clear hf); (have hf := hx.2; simp only [List.forall_mem_cons, List.not_mem_nil, false_imp_iff, implies_true, and_true] at hf)) | (go_at_call 49; (with_reducible refine (s_storedFits_yes _ _ _ _ A1.out).mono ?_); rintro e w1 ⟨rfl, hb⟩; replace hx := hx.below hb; clear hb; (try clear hf); (have hf := hx.2; simp only [List.forall_mem_cons, List.not_mem_nil, false_imp_iff, implies_true, and_true] at hf)) | (go_at_call 50; (with_reducible refine (storedFits_yes _ _ _ _ AX.out).mono ?_); rintro e w1 ⟨rfl, hb⟩; replace hx := hx.below hb; clear hb; (try clear hf); (have hf := hx.2; simp only [List.forall_mem_cons, List.not_mem_nil, false_imp_iff, implies_true, and_true] at hf)) | (go_at_call 50; (with_reducible refine (storedFits_no _ _ _ _ A2.out).mono ?_); rintro e w1 ⟨rfl, hb⟩; replace hx := hx.below hb; clear hb; (try clear hf); (have hf := hx.2; simp only [List.forall_mem_cons, List.not_mem_nil, false_imp_iff, implies_true, and_true] at hf)))
              go_ret
              exact ⟨ret_b (by simp; try omega), hb0.trans (hx.1.mono hb0.size)⟩
      · have e5 : (n / 2 ^ P.toNat * 2 ^ P.toNat == n) = false := by simpa using h5
        clear hw
        cases k
        all_goals
          by_cases h2 : Fx.Fits W P (n + 1)
          · have hm := hnext h2
            have A2 := Lib.hid h2
            clear hnext h2
            go_wp2_with (first | (go_at_call 47; (with_reducible refine (M1 _).mono ?_); rintro e w1 ⟨rfl, hb⟩; replace hx := hx.below hb; clear hb; (try clear hf); (have hf := hx.2; simp only [List.forall_mem_cons, List.not_mem_nil, false_imp_iff, implies_true, and_true] at hf)) | (go_at_call 45; (with_reducible refine (S1 _).mono ?_); rintro e w1 ⟨rfl, hb⟩; replace hx := hx.below hb; clear hb; (try clear hf); (have hf := hx.2; simp only [List.forall_mem_cons, List.not_mem_nil, false_imp_iff, implies_true, and_true] at hf)) | (go_at_call 47; (with_reducible refine (M2 _).mono ?_); rintro e w1 ⟨rfl, hb⟩; replace hx := hx.below hb; clear hb; (try clear hf); (have hf := hx.2; simp only [List.forall_mem_cons, List.not_mem_nil, false_imp_iff, implies_true, and_true] at hf)) | (go_at_call 49; (with_reducible refine (s_storedFits_yes _ _ _ _ A1.out).mono ?_); rintro e w1 ⟨rfl, hb⟩; replace hx := hx.below hb; clear hb; (try clear hf); (have hf := hx.2; simp only [List.forall_mem_cons, List.not_mem_nil, false_imp_iff, implies_true, and_true] at hf)) | (go_at_call 50; (with_reducible refine (storedFits_yes _ _ _ _ AX.out).mono ?_); rintro e w1 ⟨rfl, hb⟩; replace hx := hx.below hb; clear hb; (try clear hf); (have hf := hx.2; simp only [List.forall_mem_cons, List.not_mem_nil, false_imp_iff, implies_true, and_true] at hf)) | (go_at_call 50; (with_reducible refine (storedFits_yes _ _ _ _ A2.out).mono ?_); rintro e w1 ⟨rfl, hb⟩; replace hx := hx.below hb; clear hb; (try clear hf); (have hf := hx.2; simp only [List.forall_mem_cons, List.not_mem_nil, false_imp_iff, implies_true, and_true] at hf)))
            go_ret
            exact ⟨ret_b (by simp; try omega), hb0.trans (hx.1.mono hb0.size)⟩
          · have A2 := Lib.hid h2
            clear hnext h2
            go_wp2_with (first | (go_at_call 47; (with_reducible refine (M1 _).mono ?_); rintro e w1 ⟨rfl, hb⟩; replace hx := hx.below hb; clear hb; (try clear hf); (have hf := hx.2; simp only [List.forall_mem_cons, List.not_mem_nil, false_imp_iff, implies_true, and_true] at hf)) | (go_at_call 45; (with_reducible refine (S1 _).mono ?_); rintro e w1 ⟨rfl, hb⟩; replace hx := hx.below hb; clear hb; (try clear hf); (have hf := hx.2; simp only [List.forall_mem_cons, List.not_mem_nil, false_imp_iff, implies_true, and_true] at hf)) | (go_at_call 47; (with_reducible refine (M2 _).mono ?_); rintro e w1 ⟨rfl, hb⟩; replace hx := hx.below hb; clear hb; (try clear hf); (have hf := hx.2; simp only [List.forall_mem_cons, List.not_mem_nil, false_imp_iff, implies_true, and_true] at hf)) | (go_at_call 49; (with_reducible refine (s_storedFits_yes _ _ _ _ A1.out).mono ?_); rintro e w1 ⟨rfl, hb⟩; replace hx := hx.below hb; clear hb; (try clear hf); (have hf := hx.2; simp only [List.forall_mem_cons, List.not_mem_nil, false_imp_iff, implies_true, and_true] at hf)) | (go_at_call 50; (with_reducible refine (storedFits_yes _ _ _ _ AX.out).mono ?_); rintro e w1 ⟨rfl, hb⟩; replace hx := hx.below hb; clear hb; (try clear hf); (have hf := hx.2; simp only [List.forall_mem_cons, List.not_mem_nil, false_imp_iff, implies_true, and_true] at hf)) | (go_at_call 50; (with_reducible refine (storedFits_no _ _ _ _ A2.out).mono ?_); rintro e w1 ⟨rfl, hb⟩; replace hx := hx.below hb; clear hb; (try clear hf); (have hf := hx.2; simp only [List.forall_mem_cons, List.not_mem_nil, false_imp_iff, implies_true, and_true] at hf)))
            go_ret
            exact ⟨ret_b (by simp; try omega), hb0.trans (hx.1.mono hb0.size)⟩
    · have A1 := Lib.hid hf
      clear hf
      (have hf := hx.2; simp only [List.forall_mem_cons, List.not_mem_nil, false_imp_iff, implies_true, and_true] at hf)
      go_wp2_with (first | (go_at_call 47; (with_reducible refine (powerStored_no _ _ _ _ A1.out).mono ?_); rintro e w1 ⟨rfl, hb⟩; replace hx := hx.below hb; clear hb; (try clear hf); (have hf := hx.2; simp only [List.forall_mem_cons, List.not_mem_nil, false_imp_iff, implies_true, and_true] at hf)) | (go_at_call 45; (with_reducible refine (s_powerStored_no _ _ _ _ A1.out).mono ?_); rintro e w1 ⟨rfl, hb⟩; replace hx := hx.below hb; clear hb; (try clear hf); (have hf := hx.2; simp only [List.forall_mem_cons, List.not_mem_nil, false_imp_iff, implies_true, and_true] at hf)) | (go_at_call 49; (with_reducible refine (s_storedFits_no _ _ _ _ A1.out).mono ?_); rintro e w1 ⟨rfl, hb⟩; replace hx := hx.below hb; clear hb; (try clear hf); (have hf := hx.2; simp only [List.forall_mem_cons, List.not_mem_nil, false_imp_iff, implies_true, and_true] at hf)) | (go_at_call 27; (with_reducible refine (alive_b _).mono ?_); rintro e w1 ⟨rfl, hb⟩; replace hx := hx.below hb; clear hb; (try clear hf); (have hf := hx.2; simp only [List.forall_mem_cons, List.not_mem_nil, false_imp_iff, implies_true, and_true] at hf)))
      go_ret
      exact ⟨rfl, hb0.trans (hx.1.mono hb0.size)⟩

/-! The frame: after the kit's own shell (proof-skeleton). -/
theorem own : ownKnob Try.prog.godebug = none := by kernel_rfl
theorem laidOut : laidOutB Try.prog = true := by kernel_rfl

set_option linter.unusedVariables false in
set_option maxRecDepth 100000 in
theorem lifted (os : Os) (started : os.Started) (H : Type) (enc : TypeId × Value → H) :
    ReturnsInHanded {} Try.checked os 18 .any (Rows.fnPowerStoredSpec.pre6 enc Try.prog Try.f18 Rows.fnPowerStoredRow.domain false) (Rows.fnPowerStoredSpec.post enc Try.prog Try.f18 false true false false) := by
  refine returnsInHanded_of_change (C := Try.checked) own started (by kernel_rfl) Try.func18
    (ChangeSpec.witness6 (enc := enc) (C := Try.checked) false ⟨#[], #[.slice none 0 0], []⟩ 8 (by kernel_rfl) (by kernel_rfl) (by kernel_rfl) (by kernel_rfl)) ?_
  intro W base args ds gs before hval0 hW hcnd _
  have hval : ∀ (j : Nat) t v, Try.f18.params[j]? = some t → args[j]? = some v → Value.okWide Try.prog W .any base t v := hval0
  have hW' := hW
  obtain ⟨p, q, hA0, hV, rfl, hfz, hnd⟩ := hW
  have hA : DataW.TrodAll enc Try.prog W 0 (fun _ => true) true Try.f18.params.toList args.toList ds p := hA0
  rw [Try.params18] at hA hval
  obtain ⟨v0, vs0, d0, ds0, p0, q0, hargs, rfl, rfl, h0, r0⟩ := trodAll_cons hA
  obtain ⟨rfl, rfl, rfl⟩ := trodAll_nil r0
  obtain rfl : args = #[v0] := by cases args; simp_all
  obtain ⟨rfl, rfl⟩ := trodVars_none hV
  have k0 := h0
  have lt0 : ∀ x ∈ p0, x.block < W.heap.size := by obtain ⟨m, hm⟩ := k0; exact DataW.trod_lt m _ _ _ hm
  obtain ⟨a0, len0, cap0, rfl⟩ := okWide_slice Try.underlying30 (hval 0 30 v0 rfl rfl)
  obtain ⟨z0, w0⟩ : ∃ zs, Row8 W W.heap.size a0 len0 cap0 zs := by
    obtain ⟨fuel, hf⟩ := h0
    rcases open_ints Try.underlying30 Try.underlying5 (by kernel_rfl) hf with ⟨hcs, _⟩ | ⟨x, l, c, zs, hcs, _, hl, hm, hz, _, hcell, hwz⟩
    · simp [Value.cells] at hcs
      obtain ⟨rfl, rfl, rfl⟩ := hcs
      exact ⟨fun _ => 0, Row8.nil W _⟩
    · simp [Value.cells] at hcs
      obtain ⟨rfl, rfl, rfl⟩ := hcs
      exact ⟨_, Row8.of_ints hl hm (by simpa using hz) hcell hwz⟩
  clear hA0 hval0
  refine (walk a0 len0 cap0 z0 W w0).mono fun e W' ⟨he, bel⟩ => ?_
  subst he
  exact ⟨_, rfl, _, _, _, [], _, [], hW', trodAll_mk1 (shut_bool Try.underlying4 _), (trodAll_cons_mk (Below.trod laidOut (by kernel_rfl) (of_decide_eq_true (by kernel_rfl)) k0 bel lt0) trodAll_mk0), rfl, bel.frame _, fun h => by cases h⟩

set_option maxRecDepth 100000 in
theorem closed : joinedFacts Try.prog 18 Try.f18 Rows.fnPowerStoredSpec Rows.fnPowerStoredRow = true := by
  unfold joinedFacts
  rw [mayEnter_ok, liftsFinal_ok, make_ok]
  kernel_rfl

theorem over : Rows.fnPowerStoredRow.holds Try.pinned (OpenSpec.ofChange Rows.fnPowerStoredSpec) :=
  OpenClaim.holds_of_wide 18 Try.f18 rfl rfl rfl rfl rfl rfl rfl ⟨rfl, rfl, rfl, rfl, rfl⟩ rfl rfl rfl rfl rfl (by kernel_rfl) Try.func18 closed
    (of_decide_eq_true (by kernel_rfl)) (by unfold Func.isWrapper; first | (rw [if_pos (by decide +kernel)]; kernel_rfl) | (rw [if_neg (by decide +kernel)]; exact ⟨rfl, rfl⟩))
    (fun os started H enc _ => lifted os started H enc)

/-- The statement. -/
theorem proved : Rows.FnPowerStoredSaid := over
#print axioms proved

end Go.Proofs.Ytfllhncilfkamaa.fnPowerStored
