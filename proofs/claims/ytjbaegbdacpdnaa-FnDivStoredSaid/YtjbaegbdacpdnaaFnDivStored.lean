/- Quotients are nearest: FnDivStored returns true for every code, and reads it alone. No condition. -/
import Derived.Test.YtjbaegbdacpdnaaLawFmt
import Derived.Test.YtjbaegbdacpdnaaFmtOne
import Derived.ShutString
import Derived.ChangeOld
namespace Go.Proofs.Ytjbaegbdacpdnaa.fnDivStored
open Go.ChangeShapes Go.WideShapes Go.ChangeAt Go.RowKit

set_option maxHeartbeats 4000000 in
theorem walk (a : Option Addr) (len cap : Nat) (zs : Nat → Int) (w : World) (h : Row8 w w.heap.size a len cap zs) :
    Calls Try.prog 21 #[.slice a len cap] w fun e w' => e = .returned (.bool true) ∧ Below w.heap.size w w' := by
  have hl : len ≤ 9223372036854775807 := Nat.le_trans h.1 h.2.1
  have H := Lib.hid h
  clear h
  by_cases hlen : 1048576 < len
  · go_enter Try.func21, Try.ntmps21
    go_wp2
    go_ret
    exact ⟨rfl, Below.refl _ _⟩
  · go_enter Try.func21, Try.ntmps21
    go_wp2_with fail
    refine (drawDivStored_any _ _ _ _ _ H.out).mono ?_
    rintro e u ⟨W, P, a, b, rfl, hb0⟩
    have hx := hold_two u (.int .i64 W) (.int .i64 P) 32
    clear H
    by_cases ha : Fits W P a
    · by_cases hb : Fits W P b
      · by_cases hz : b = 0
        · subst hz
          have A1 := Lib.hid ha
          have B1 := Lib.hid hb
          have N1 := Lib.hid (show ¬((0 : Int) ≠ 0 ∧ ((1 ≤ W ∧ W ≤ 12) ∧ 0 ≤ P ∧ P ≤ 16) ∧ (-2 ^ (W + P).toNat ≤ a ∧ a ≤ 2 ^ (W + P).toNat - 1) ∧ -2 ^ (W + P).toNat ≤ (0 : Int) ∧ (0 : Int) ≤ 2 ^ (W + P).toNat - 1) from fun hh => hh.1 rfl)
          clear ha hb
          (have hf := hx.2; simp only [List.forall_mem_cons, List.not_mem_nil, false_imp_iff, implies_true, and_true] at hf)
          go_wp2_with (first | (go_at_call 42; (with_reducible refine (divStored_no _ _ _ _ _ N1.out).mono ?_); rintro e w1 ⟨rfl, hb⟩; replace hx := hx.below hb; clear hb; (try clear hf); (have hf := hx.2; simp only [List.forall_mem_cons, List.not_mem_nil, false_imp_iff, implies_true, and_true] at hf)) | (go_at_call 41; (with_reducible refine (s_divStored_no _ _ _ _ _ N1.out).mono ?_); rintro e w1 ⟨rfl, hb⟩; replace hx := hx.below hb; clear hb; (try clear hf); (have hf := hx.2; simp only [List.forall_mem_cons, List.not_mem_nil, false_imp_iff, implies_true, and_true] at hf)) | (go_at_call 57; (with_reducible refine (s_storedFits_yes _ _ _ _ A1.out).mono ?_); rintro e w1 ⟨rfl, hb⟩; replace hx := hx.below hb; clear hb; (try clear hf); (have hf := hx.2; simp only [List.forall_mem_cons, List.not_mem_nil, false_imp_iff, implies_true, and_true] at hf)) | (go_at_call 57; (with_reducible refine (s_storedFits_yes _ _ _ _ B1.out).mono ?_); rintro e w1 ⟨rfl, hb⟩; replace hx := hx.below hb; clear hb; (try clear hf); (have hf := hx.2; simp only [List.forall_mem_cons, List.not_mem_nil, false_imp_iff, implies_true, and_true] at hf)) | (go_at_call 26; (with_reducible refine (alive_b _).mono ?_); rintro e w1 ⟨rfl, hb⟩; replace hx := hx.below hb; clear hb; (try clear hf); (have hf := hx.2; simp only [List.forall_mem_cons, List.not_mem_nil, false_imp_iff, implies_true, and_true] at hf)))
          go_ret
          exact ⟨rfl, hb0.trans (hx.1.mono hb0.size)⟩
        · obtain ⟨x, k, M1, M2, S1, hX, hK⟩ := div_pack W P a b hz ha hb
          have hz' : (b == 0) = false := by simpa using hz
          have A1 := Lib.hid ha
          have B1 := Lib.hid hb
          have X1 := Lib.hid hX
          have hp := (fits_work ha).2
          have hv := ha.1
          have hq := ha.1.2
          have ba := (fits_work ha).1
          have bb := (fits_work hb).1
          have bx := (fits_work hX).1
          have hab := Fx.mul_bounds' (a := x) (b := b) (A := 268435456) (B := 268435456) (by omega) (by omega)
          have hxp := Fx.mul_bounds (a := a) (b := 2 ^ P.toNat) (A := 268435456) (B := 65536) (by omega) (by omega)
          have V1 := Lib.hid hv
          clear ha hb hX hv
          (have hf := hx.2; simp only [List.forall_mem_cons, List.not_mem_nil, false_imp_iff, implies_true, and_true] at hf)
          by_cases hs : a * 2 ^ P.toNat - x * b < x * b - a * 2 ^ P.toNat
          all_goals
            by_cases hn : b < -b
            all_goals
              cases k
              · clear hK
                go_wp2_with (first | (go_at_call 42; (with_reducible refine (M1 _).mono ?_); rintro e w1 ⟨rfl, hb⟩; replace hx := hx.below hb; clear hb; (try clear hf); (have hf := hx.2; simp only [List.forall_mem_cons, List.not_mem_nil, false_imp_iff, implies_true, and_true] at hf)) | (go_at_call 42; (with_reducible refine (M2 _).mono ?_); rintro e w1 ⟨rfl, hb⟩; replace hx := hx.below hb; clear hb; (try clear hf); (have hf := hx.2; simp only [List.forall_mem_cons, List.not_mem_nil, false_imp_iff, implies_true, and_true] at hf)) | (go_at_call 41; (with_reducible refine (S1 _).mono ?_); rintro e w1 ⟨rfl, hb⟩; replace hx := hx.below hb; clear hb; (try clear hf); (have hf := hx.2; simp only [List.forall_mem_cons, List.not_mem_nil, false_imp_iff, implies_true, and_true] at hf)) | (go_at_call 57; (with_reducible refine (s_storedFits_yes _ _ _ _ A1.out).mono ?_); rintro e w1 ⟨rfl, hb⟩; replace hx := hx.below hb; clear hb; (try clear hf); (have hf := hx.2; simp only [List.forall_mem_cons, List.not_mem_nil, false_imp_iff, implies_true, and_true] at hf)) | (go_at_call 57; (with_reducible refine (s_storedFits_yes _ _ _ _ B1.out).mono ?_); rintro e w1 ⟨rfl, hb⟩; replace hx := hx.below hb; clear hb; (try clear hf); (have hf := hx.2; simp only [List.forall_mem_cons, List.not_mem_nil, false_imp_iff, implies_true, and_true] at hf)) | (go_at_call 50; (with_reducible refine (storedFits_yes _ _ _ _ X1.out).mono ?_); rintro e w1 ⟨rfl, hb⟩; replace hx := hx.below hb; clear hb; (try clear hf); (have hf := hx.2; simp only [List.forall_mem_cons, List.not_mem_nil, false_imp_iff, implies_true, and_true] at hf)) | (go_at_call 52; (with_reducible refine (oneOf_yes _ _ _ V1.out).mono ?_); rintro e w1 ⟨rfl, hb⟩; replace hx := hx.below hb; clear hb; (try clear hf); (have hf := hx.2; simp only [List.forall_mem_cons, List.not_mem_nil, false_imp_iff, implies_true, and_true] at hf)))
                (have hn : Nonempty (Held u [(u.heap.size, 0, .int .i64 W), (u.heap.size, 1, .int .i64 P)]) := ⟨⟨_, hx⟩⟩; have hl0 : ∀ x : Held u [(u.heap.size, 0, .int .i64 W), (u.heap.size, 1, .int .i64 P)], x.it.cell? ⟨u.heap.size, 0, none⟩ = some (.int .i64 W) := fun x => x.at0; have hl1 : ∀ x : Held u [(u.heap.size, 0, .int .i64 W), (u.heap.size, 1, .int .i64 P)], x.it.cell? ⟨u.heap.size, 1, none⟩ = some (.int .i64 P) := fun x => x.at1; refine wp_region_hold [(u.heap.size, 0, .int .i64 W), (u.heap.size, 1, .int .i64 P)] hx (by kernel_rfl) (by kernel_rfl) ?_; (repeat (go_big_quiet_step ((fail)))); refine wpQuiet_nil ?_; intro _ hx; clear hn hl0 hl1)
                (try clear hf); (have hf := hx.2; simp only [List.forall_mem_cons, List.not_mem_nil, false_imp_iff, implies_true, and_true] at hf)
                go_wp2_with (first | (go_at_call 42; (with_reducible refine (M1 _).mono ?_); rintro e w1 ⟨rfl, hb⟩; replace hx := hx.below hb; clear hb; (try clear hf); (have hf := hx.2; simp only [List.forall_mem_cons, List.not_mem_nil, false_imp_iff, implies_true, and_true] at hf)) | (go_at_call 42; (with_reducible refine (M2 _).mono ?_); rintro e w1 ⟨rfl, hb⟩; replace hx := hx.below hb; clear hb; (try clear hf); (have hf := hx.2; simp only [List.forall_mem_cons, List.not_mem_nil, false_imp_iff, implies_true, and_true] at hf)) | (go_at_call 41; (with_reducible refine (S1 _).mono ?_); rintro e w1 ⟨rfl, hb⟩; replace hx := hx.below hb; clear hb; (try clear hf); (have hf := hx.2; simp only [List.forall_mem_cons, List.not_mem_nil, false_imp_iff, implies_true, and_true] at hf)) | (go_at_call 57; (with_reducible refine (s_storedFits_yes _ _ _ _ A1.out).mono ?_); rintro e w1 ⟨rfl, hb⟩; replace hx := hx.below hb; clear hb; (try clear hf); (have hf := hx.2; simp only [List.forall_mem_cons, List.not_mem_nil, false_imp_iff, implies_true, and_true] at hf)) | (go_at_call 57; (with_reducible refine (s_storedFits_yes _ _ _ _ B1.out).mono ?_); rintro e w1 ⟨rfl, hb⟩; replace hx := hx.below hb; clear hb; (try clear hf); (have hf := hx.2; simp only [List.forall_mem_cons, List.not_mem_nil, false_imp_iff, implies_true, and_true] at hf)) | (go_at_call 50; (with_reducible refine (storedFits_yes _ _ _ _ X1.out).mono ?_); rintro e w1 ⟨rfl, hb⟩; replace hx := hx.below hb; clear hb; (try clear hf); (have hf := hx.2; simp only [List.forall_mem_cons, List.not_mem_nil, false_imp_iff, implies_true, and_true] at hf)) | (go_at_call 52; (with_reducible refine (oneOf_yes _ _ _ V1.out).mono ?_); rintro e w1 ⟨rfl, hb⟩; replace hx := hx.below hb; clear hb; (try clear hf); (have hf := hx.2; simp only [List.forall_mem_cons, List.not_mem_nil, false_imp_iff, implies_true, and_true] at hf)))
                go_ret
                exact ⟨ret_b (by simp), hb0.trans (hx.1.mono hb0.size)⟩
              · have hK := hK rfl
                first
                  | (have g := hK.1 (by omega); clear hK; obtain ⟨g1, g2⟩ := g)
                  | (have g := hK.2 (by omega); clear hK; obtain ⟨g1, g2⟩ := g)
                go_wp2_with (first | (go_at_call 42; (with_reducible refine (M1 _).mono ?_); rintro e w1 ⟨rfl, hb⟩; replace hx := hx.below hb; clear hb; (try clear hf); (have hf := hx.2; simp only [List.forall_mem_cons, List.not_mem_nil, false_imp_iff, implies_true, and_true] at hf)) | (go_at_call 42; (with_reducible refine (M2 _).mono ?_); rintro e w1 ⟨rfl, hb⟩; replace hx := hx.below hb; clear hb; (try clear hf); (have hf := hx.2; simp only [List.forall_mem_cons, List.not_mem_nil, false_imp_iff, implies_true, and_true] at hf)) | (go_at_call 41; (with_reducible refine (S1 _).mono ?_); rintro e w1 ⟨rfl, hb⟩; replace hx := hx.below hb; clear hb; (try clear hf); (have hf := hx.2; simp only [List.forall_mem_cons, List.not_mem_nil, false_imp_iff, implies_true, and_true] at hf)) | (go_at_call 57; (with_reducible refine (s_storedFits_yes _ _ _ _ A1.out).mono ?_); rintro e w1 ⟨rfl, hb⟩; replace hx := hx.below hb; clear hb; (try clear hf); (have hf := hx.2; simp only [List.forall_mem_cons, List.not_mem_nil, false_imp_iff, implies_true, and_true] at hf)) | (go_at_call 57; (with_reducible refine (s_storedFits_yes _ _ _ _ B1.out).mono ?_); rintro e w1 ⟨rfl, hb⟩; replace hx := hx.below hb; clear hb; (try clear hf); (have hf := hx.2; simp only [List.forall_mem_cons, List.not_mem_nil, false_imp_iff, implies_true, and_true] at hf)) | (go_at_call 50; (with_reducible refine (storedFits_yes _ _ _ _ X1.out).mono ?_); rintro e w1 ⟨rfl, hb⟩; replace hx := hx.below hb; clear hb; (try clear hf); (have hf := hx.2; simp only [List.forall_mem_cons, List.not_mem_nil, false_imp_iff, implies_true, and_true] at hf)) | (go_at_call 52; (with_reducible refine (oneOf_yes _ _ _ V1.out).mono ?_); rintro e w1 ⟨rfl, hb⟩; replace hx := hx.below hb; clear hb; (try clear hf); (have hf := hx.2; simp only [List.forall_mem_cons, List.not_mem_nil, false_imp_iff, implies_true, and_true] at hf)))
                (have hn : Nonempty (Held u [(u.heap.size, 0, .int .i64 W), (u.heap.size, 1, .int .i64 P)]) := ⟨⟨_, hx⟩⟩; have hl0 : ∀ x : Held u [(u.heap.size, 0, .int .i64 W), (u.heap.size, 1, .int .i64 P)], x.it.cell? ⟨u.heap.size, 0, none⟩ = some (.int .i64 W) := fun x => x.at0; have hl1 : ∀ x : Held u [(u.heap.size, 0, .int .i64 W), (u.heap.size, 1, .int .i64 P)], x.it.cell? ⟨u.heap.size, 1, none⟩ = some (.int .i64 P) := fun x => x.at1; refine wp_region_hold [(u.heap.size, 0, .int .i64 W), (u.heap.size, 1, .int .i64 P)] hx (by kernel_rfl) (by kernel_rfl) ?_; (repeat (go_big_quiet_step ((fail)))); refine wpQuiet_nil ?_; intro _ hx; clear hn hl0 hl1)
                (try clear hf); (have hf := hx.2; simp only [List.forall_mem_cons, List.not_mem_nil, false_imp_iff, implies_true, and_true] at hf)
                go_wp2_with (first | (go_at_call 42; (with_reducible refine (M1 _).mono ?_); rintro e w1 ⟨rfl, hb⟩; replace hx := hx.below hb; clear hb; (try clear hf); (have hf := hx.2; simp only [List.forall_mem_cons, List.not_mem_nil, false_imp_iff, implies_true, and_true] at hf)) | (go_at_call 42; (with_reducible refine (M2 _).mono ?_); rintro e w1 ⟨rfl, hb⟩; replace hx := hx.below hb; clear hb; (try clear hf); (have hf := hx.2; simp only [List.forall_mem_cons, List.not_mem_nil, false_imp_iff, implies_true, and_true] at hf)) | (go_at_call 41; (with_reducible refine (S1 _).mono ?_); rintro e w1 ⟨rfl, hb⟩; replace hx := hx.below hb; clear hb; (try clear hf); (have hf := hx.2; simp only [List.forall_mem_cons, List.not_mem_nil, false_imp_iff, implies_true, and_true] at hf)) | (go_at_call 57; (with_reducible refine (s_storedFits_yes _ _ _ _ A1.out).mono ?_); rintro e w1 ⟨rfl, hb⟩; replace hx := hx.below hb; clear hb; (try clear hf); (have hf := hx.2; simp only [List.forall_mem_cons, List.not_mem_nil, false_imp_iff, implies_true, and_true] at hf)) | (go_at_call 57; (with_reducible refine (s_storedFits_yes _ _ _ _ B1.out).mono ?_); rintro e w1 ⟨rfl, hb⟩; replace hx := hx.below hb; clear hb; (try clear hf); (have hf := hx.2; simp only [List.forall_mem_cons, List.not_mem_nil, false_imp_iff, implies_true, and_true] at hf)) | (go_at_call 50; (with_reducible refine (storedFits_yes _ _ _ _ X1.out).mono ?_); rintro e w1 ⟨rfl, hb⟩; replace hx := hx.below hb; clear hb; (try clear hf); (have hf := hx.2; simp only [List.forall_mem_cons, List.not_mem_nil, false_imp_iff, implies_true, and_true] at hf)) | (go_at_call 52; (with_reducible refine (oneOf_yes _ _ _ V1.out).mono ?_); rintro e w1 ⟨rfl, hb⟩; replace hx := hx.below hb; clear hb; (try clear hf); (have hf := hx.2; simp only [List.forall_mem_cons, List.not_mem_nil, false_imp_iff, implies_true, and_true] at hf)))
                go_ret
                exact ⟨ret_b (by simp; try omega), hb0.trans (hx.1.mono hb0.size)⟩
      · have A1 := Lib.hid ha
        have B1 := Lib.hid hb
        have N1 := Lib.hid (show ¬(b ≠ 0 ∧ ((1 ≤ W ∧ W ≤ 12) ∧ 0 ≤ P ∧ P ≤ 16) ∧ (-2 ^ (W + P).toNat ≤ a ∧ a ≤ 2 ^ (W + P).toNat - 1) ∧ -2 ^ (W + P).toNat ≤ b ∧ b ≤ 2 ^ (W + P).toNat - 1) from fun hh => hb ⟨hh.2.1, hh.2.2.2⟩)
        clear ha hb
        (have hf := hx.2; simp only [List.forall_mem_cons, List.not_mem_nil, false_imp_iff, implies_true, and_true] at hf)
        go_wp2_with (first | (go_at_call 42; (with_reducible refine (divStored_no _ _ _ _ _ N1.out).mono ?_); rintro e w1 ⟨rfl, hb⟩; replace hx := hx.below hb; clear hb; (try clear hf); (have hf := hx.2; simp only [List.forall_mem_cons, List.not_mem_nil, false_imp_iff, implies_true, and_true] at hf)) | (go_at_call 41; (with_reducible refine (s_divStored_no _ _ _ _ _ N1.out).mono ?_); rintro e w1 ⟨rfl, hb⟩; replace hx := hx.below hb; clear hb; (try clear hf); (have hf := hx.2; simp only [List.forall_mem_cons, List.not_mem_nil, false_imp_iff, implies_true, and_true] at hf)) | (go_at_call 57; (with_reducible refine (s_storedFits_yes _ _ _ _ A1.out).mono ?_); rintro e w1 ⟨rfl, hb⟩; replace hx := hx.below hb; clear hb; (try clear hf); (have hf := hx.2; simp only [List.forall_mem_cons, List.not_mem_nil, false_imp_iff, implies_true, and_true] at hf)) | (go_at_call 57; (with_reducible refine (s_storedFits_no _ _ _ _ B1.out).mono ?_); rintro e w1 ⟨rfl, hb⟩; replace hx := hx.below hb; clear hb; (try clear hf); (have hf := hx.2; simp only [List.forall_mem_cons, List.not_mem_nil, false_imp_iff, implies_true, and_true] at hf)) | (go_at_call 26; (with_reducible refine (alive_b _).mono ?_); rintro e w1 ⟨rfl, hb⟩; replace hx := hx.below hb; clear hb; (try clear hf); (have hf := hx.2; simp only [List.forall_mem_cons, List.not_mem_nil, false_imp_iff, implies_true, and_true] at hf)))
        go_ret
        exact ⟨rfl, hb0.trans (hx.1.mono hb0.size)⟩
    · have A1 := Lib.hid ha
      have N1 := Lib.hid (show ¬(b ≠ 0 ∧ ((1 ≤ W ∧ W ≤ 12) ∧ 0 ≤ P ∧ P ≤ 16) ∧ (-2 ^ (W + P).toNat ≤ a ∧ a ≤ 2 ^ (W + P).toNat - 1) ∧ -2 ^ (W + P).toNat ≤ b ∧ b ≤ 2 ^ (W + P).toNat - 1) from fun hh => ha ⟨hh.2.1, hh.2.2.1⟩)
      clear ha
      (have hf := hx.2; simp only [List.forall_mem_cons, List.not_mem_nil, false_imp_iff, implies_true, and_true] at hf)
      go_wp2_with (first | (go_at_call 42; (with_reducible refine (divStored_no _ _ _ _ _ N1.out).mono ?_); rintro e w1 ⟨rfl, hb⟩; replace hx := hx.below hb; clear hb; (try clear hf); (have hf := hx.2; simp only [List.forall_mem_cons, List.not_mem_nil, false_imp_iff, implies_true, and_true] at hf)) | (go_at_call 41; (with_reducible refine (s_divStored_no _ _ _ _ _ N1.out).mono ?_); rintro e w1 ⟨rfl, hb⟩; replace hx := hx.below hb; clear hb; (try clear hf); (have hf := hx.2; simp only [List.forall_mem_cons, List.not_mem_nil, false_imp_iff, implies_true, and_true] at hf)) | (go_at_call 57; (with_reducible refine (s_storedFits_no _ _ _ _ A1.out).mono ?_); rintro e w1 ⟨rfl, hb⟩; replace hx := hx.below hb; clear hb; (try clear hf); (have hf := hx.2; simp only [List.forall_mem_cons, List.not_mem_nil, false_imp_iff, implies_true, and_true] at hf)) | (go_at_call 26; (with_reducible refine (alive_b _).mono ?_); rintro e w1 ⟨rfl, hb⟩; replace hx := hx.below hb; clear hb; (try clear hf); (have hf := hx.2; simp only [List.forall_mem_cons, List.not_mem_nil, false_imp_iff, implies_true, and_true] at hf)))
      go_ret
      exact ⟨rfl, hb0.trans (hx.1.mono hb0.size)⟩

/-! The frame: after the kit's own shell (proof-skeleton). -/
theorem own : ownKnob Try.prog.godebug = none := by kernel_rfl
theorem laidOut : laidOutB Try.prog = true := by kernel_rfl

set_option linter.unusedVariables false in
set_option maxRecDepth 100000 in
theorem lifted (os : Os) (started : os.Started) (H : Type) (enc : TypeId × Value → H) :
    ReturnsInHanded {} Try.checked os 21 .any (Rows.fnDivStoredSpec.pre6 enc Try.prog Try.f21 Rows.fnDivStoredRow.domain false) (Rows.fnDivStoredSpec.post enc Try.prog Try.f21 false true false false) := by
  refine returnsInHanded_of_change (C := Try.checked) own started (by kernel_rfl) Try.func21
    (ChangeSpec.witness6 (enc := enc) (C := Try.checked) false ⟨#[], #[.slice none 0 0], []⟩ 8 (by kernel_rfl) (by kernel_rfl) (by kernel_rfl) (by kernel_rfl)) ?_
  intro W base args ds gs before hval0 hW hcnd _
  have hval : ∀ (j : Nat) t v, Try.f21.params[j]? = some t → args[j]? = some v → Value.okWide Try.prog W .any base t v := hval0
  have hW' := hW
  obtain ⟨p, q, hA0, hV, rfl, hfz, hnd⟩ := hW
  have hA : DataW.TrodAll enc Try.prog W 0 (fun _ => true) true Try.f21.params.toList args.toList ds p := hA0
  rw [Try.params21] at hA hval
  obtain ⟨v0, vs0, d0, ds0, p0, q0, hargs, rfl, rfl, h0, r0⟩ := trodAll_cons hA
  obtain ⟨rfl, rfl, rfl⟩ := trodAll_nil r0
  obtain rfl : args = #[v0] := by cases args; simp_all
  obtain ⟨rfl, rfl⟩ := trodVars_none hV
  have k0 := h0
  have lt0 : ∀ x ∈ p0, x.block < W.heap.size := by obtain ⟨m, hm⟩ := k0; exact DataW.trod_lt m _ _ _ hm
  obtain ⟨a0, len0, cap0, rfl⟩ := okWide_slice Try.underlying22 (hval 0 22 v0 rfl rfl)
  obtain ⟨z0, w0⟩ : ∃ zs, Row8 W W.heap.size a0 len0 cap0 zs := by
    obtain ⟨fuel, hf⟩ := h0
    rcases open_ints Try.underlying22 Try.underlying5 (by kernel_rfl) hf with ⟨hcs, _⟩ | ⟨x, l, c, zs, hcs, _, hl, hm, hz, _, hcell, hwz⟩
    · simp [Value.cells] at hcs
      obtain ⟨rfl, rfl, rfl⟩ := hcs
      exact ⟨fun _ => 0, Row8.nil W _⟩
    · simp [Value.cells] at hcs
      obtain ⟨rfl, rfl, rfl⟩ := hcs
      exact ⟨_, Row8.of_ints hl hm (by simpa using hz) hcell hwz⟩
  clear hA0 hval0
  refine (walk a0 len0 cap0 z0 W w0).mono fun e W' ⟨he, bel⟩ => ?_
  subst he
  exact ⟨_, rfl, _, _, _, [], _, [], hW', trodAll_mk1 (shut_bool Try.underlying4 _), (trodAll_cons_mk (Below.trod laidOut (by kernel_rfl) (of_decide_eq_true (by kernel_rfl)) k0 bel lt0) trodAll_mk0), rfl, bel.frame _, fun h => by cases h⟩

set_option maxRecDepth 100000 in
theorem closed : joinedFacts Try.prog 21 Try.f21 Rows.fnDivStoredSpec Rows.fnDivStoredRow = true := by
  unfold joinedFacts
  rw [mayEnter_ok, liftsFinal_ok, make_ok]
  kernel_rfl

theorem over : Rows.fnDivStoredRow.holds Try.pinned (OpenSpec.ofChange Rows.fnDivStoredSpec) :=
  OpenClaim.holds_of_wide 21 Try.f21 rfl rfl rfl rfl rfl rfl rfl ⟨rfl, rfl, rfl, rfl, rfl⟩ rfl rfl rfl rfl rfl (by kernel_rfl) Try.func21 closed
    (of_decide_eq_true (by kernel_rfl)) (by unfold Func.isWrapper; first | (rw [if_pos (by decide +kernel)]; kernel_rfl) | (rw [if_neg (by decide +kernel)]; exact ⟨rfl, rfl⟩))
    (fun os started H enc _ => lifted os started H enc)

/-- The statement. -/
theorem proved : Rows.FnDivStoredSaid := over
#print axioms proved

end Go.Proofs.Ytjbaegbdacpdnaa.fnDivStored
