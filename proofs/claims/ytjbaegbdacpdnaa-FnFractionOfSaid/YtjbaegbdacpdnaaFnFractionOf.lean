/- Fractions are stored as the nearest number: FnFractionOf returns true for every code, and reads it alone. No condition. -/
import Derived.Test.YtjbaegbdacpdnaaLawFmt2
import Derived.ShutString
import Derived.ChangeOld
namespace Go.Proofs.Ytjbaegbdacpdnaa.fnFractionOf
open Go.ChangeShapes Go.WideShapes Go.ChangeAt Go.RowKit

set_option maxHeartbeats 4000000 in
theorem walk (a : Option Addr) (len cap : Nat) (zs : Nat → Int) (w : World) (h : Row8 w w.heap.size a len cap zs) :
    Calls Try.prog 13 #[.slice a len cap] w fun e w' => e = .returned (.bool true) ∧ Below w.heap.size w w' := by
  have hl : len ≤ 9223372036854775807 := Nat.le_trans h.1 h.2.1
  have H := Lib.hid h
  clear h
  by_cases hlen : 1048576 < len
  · go_enter Try.func13, Try.ntmps13
    go_wp2
    go_ret
    exact ⟨rfl, Below.refl _ _⟩
  · go_enter Try.func13, Try.ntmps13
    go_wp2_with fail
    refine (drawFractionOf_any _ _ _ _ _ H.out).mono ?_
    rintro e u ⟨W, P, n, m, rfl, hb0⟩
    clear H
    have hx := hold_two u (.int .i64 W) (.int .i64 P) 32
    by_cases hv : Vld W P
    · by_cases hn : -1099511627776 ≤ n ∧ n ≤ 1099511627776
      · by_cases hm : 1 ≤ m ∧ m ≤ 1099511627776
        · obtain ⟨x, k, M1, S1, M2, hX, hK⟩ := frac_pack W P n m hv hn hm
          have X1 := Lib.hid hX
          have V1 := Lib.hid hv
          have hp := (fits_work hX).2
          have hq := hv.2
          have bx := (fits_work hX).1
          have hnp := Fx.mul_bounds (a := n) (b := 2 ^ P.toNat) (A := 1099511627776) (B := 65536) (by omega) (by omega)
          clear hX hv
          (have hf := hx.2; simp only [List.forall_mem_cons, List.not_mem_nil, false_imp_iff, implies_true, and_true] at hf)
          have hc : (¬549755813888 < n ∧ ¬n < -549755813888 ∧ ¬549755813888 < m) ∨ 549755813888 < n ∨ (¬549755813888 < n ∧ n < -549755813888) ∨ (¬549755813888 < n ∧ ¬n < -549755813888 ∧ 549755813888 < m) := by omega
          rcases hc with ⟨c1, c2, c3⟩ | c1 | ⟨c1, c2⟩ | ⟨c1, c2, c3⟩
          · have M3 := M2 ⟨⟨by omega, by omega⟩, by omega⟩
            clear M2
            go_wp2_with (first | (go_at_call 29; (with_reducible refine (M1 _).mono ?_); rintro e w1 ⟨rfl, hb⟩; replace hx := hx.below hb; clear hb; (try clear hf); (have hf := hx.2; simp only [List.forall_mem_cons, List.not_mem_nil, false_imp_iff, implies_true, and_true] at hf)) | (go_at_call 27; (with_reducible refine (S1 _).mono ?_); rintro e w1 ⟨rfl, hb⟩; replace hx := hx.below hb; clear hb; (try clear hf); (have hf := hx.2; simp only [List.forall_mem_cons, List.not_mem_nil, false_imp_iff, implies_true, and_true] at hf)) | (go_at_call 49; (with_reducible refine (s_formatValid_yes _ _ _ V1.out).mono ?_); rintro e w1 ⟨rfl, hb⟩; replace hx := hx.below hb; clear hb; (try clear hf); (have hf := hx.2; simp only [List.forall_mem_cons, List.not_mem_nil, false_imp_iff, implies_true, and_true] at hf)) | (go_at_call 29; (with_reducible refine (M3 _).mono ?_); rintro e w1 ⟨rfl, hb⟩; replace hx := hx.below hb; clear hb; (try clear hf); (have hf := hx.2; simp only [List.forall_mem_cons, List.not_mem_nil, false_imp_iff, implies_true, and_true] at hf)))
            clear M3
            clear M1 S1
            cases k
            · clear hK
              obtain ⟨X, hX⟩ : ∃ X, IntKind.i64.wrap (x * m) = X := ⟨_, rfl⟩
              obtain ⟨Y, hY⟩ : ∃ Y, IntKind.i64.wrap (n * 2 ^ P.toNat - X) = Y := ⟨_, rfl⟩
              obtain ⟨Z, hZ⟩ : ∃ Z, IntKind.i64.wrap (X - n * 2 ^ P.toNat) = Z := ⟨_, rfl⟩
              by_cases hs : Y < Z
              all_goals
                (have hn : Nonempty (Held u [(u.heap.size, 0, .int .i64 W), (u.heap.size, 1, .int .i64 P)]) := ⟨⟨_, hx⟩⟩; have hl0 : ∀ x : Held u [(u.heap.size, 0, .int .i64 W), (u.heap.size, 1, .int .i64 P)], x.it.cell? ⟨u.heap.size, 0, none⟩ = some (.int .i64 W) := fun x => x.at0; have hl1 : ∀ x : Held u [(u.heap.size, 0, .int .i64 W), (u.heap.size, 1, .int .i64 P)], x.it.cell? ⟨u.heap.size, 1, none⟩ = some (.int .i64 P) := fun x => x.at1; refine wp_region_hold [(u.heap.size, 0, .int .i64 W), (u.heap.size, 1, .int .i64 P)] hx (by kernel_rfl) (by kernel_rfl) ?_; (repeat (go_big_quiet_step ((fail)))); refine wpQuiet_nil ?_; intro _ hx; clear hn hl0 hl1)
                (try clear hf); (have hf := hx.2; simp only [List.forall_mem_cons, List.not_mem_nil, false_imp_iff, implies_true, and_true] at hf)
                clear hX hY hZ
                go_wp2_with (go_at_call 50; (with_reducible refine (storedFits_yes _ _ _ _ X1.out).mono ?_); rintro e w1 ⟨rfl, hb⟩; replace hx := hx.below hb; clear hb; (try clear hf); (have hf := hx.2; simp only [List.forall_mem_cons, List.not_mem_nil, false_imp_iff, implies_true, and_true] at hf))
                go_ret
                exact ⟨rfl, hb0.trans (hx.1.mono hb0.size)⟩
            · obtain ⟨g1, g2⟩ := hK rfl
              by_cases hs : n * 2 ^ P.toNat - x * m < x * m - n * 2 ^ P.toNat
              all_goals
                (have hn : Nonempty (Held u [(u.heap.size, 0, .int .i64 W), (u.heap.size, 1, .int .i64 P)]) := ⟨⟨_, hx⟩⟩; have hl0 : ∀ x : Held u [(u.heap.size, 0, .int .i64 W), (u.heap.size, 1, .int .i64 P)], x.it.cell? ⟨u.heap.size, 0, none⟩ = some (.int .i64 W) := fun x => x.at0; have hl1 : ∀ x : Held u [(u.heap.size, 0, .int .i64 W), (u.heap.size, 1, .int .i64 P)], x.it.cell? ⟨u.heap.size, 1, none⟩ = some (.int .i64 P) := fun x => x.at1; refine wp_region_hold [(u.heap.size, 0, .int .i64 W), (u.heap.size, 1, .int .i64 P)] hx (by kernel_rfl) (by kernel_rfl) ?_; (repeat (go_big_quiet_step ((fail)))); refine wpQuiet_nil ?_; intro _ hx; clear hn hl0 hl1)
                (try clear hf); (have hf := hx.2; simp only [List.forall_mem_cons, List.not_mem_nil, false_imp_iff, implies_true, and_true] at hf)
                go_wp2_with (go_at_call 50; (with_reducible refine (storedFits_yes _ _ _ _ X1.out).mono ?_); rintro e w1 ⟨rfl, hb⟩; replace hx := hx.below hb; clear hb; (try clear hf); (have hf := hx.2; simp only [List.forall_mem_cons, List.not_mem_nil, false_imp_iff, implies_true, and_true] at hf))
                go_ret
                exact ⟨ret_b (by simp; try omega), hb0.trans (hx.1.mono hb0.size)⟩
            · exfalso
              have h := ‹((!decide (549755813888 < n)) = false ∨ (!decide (n < -549755813888)) = false) ∨ (!decide (549755813888 < m)) = false›
              simp at h
              omega
          · clear M2
            go_wp2_with (first | (go_at_call 29; (with_reducible refine (M1 _).mono ?_); rintro e w1 ⟨rfl, hb⟩; replace hx := hx.below hb; clear hb; (try clear hf); (have hf := hx.2; simp only [List.forall_mem_cons, List.not_mem_nil, false_imp_iff, implies_true, and_true] at hf)) | (go_at_call 27; (with_reducible refine (S1 _).mono ?_); rintro e w1 ⟨rfl, hb⟩; replace hx := hx.below hb; clear hb; (try clear hf); (have hf := hx.2; simp only [List.forall_mem_cons, List.not_mem_nil, false_imp_iff, implies_true, and_true] at hf)) | (go_at_call 49; (with_reducible refine (s_formatValid_yes _ _ _ V1.out).mono ?_); rintro e w1 ⟨rfl, hb⟩; replace hx := hx.below hb; clear hb; (try clear hf); (have hf := hx.2; simp only [List.forall_mem_cons, List.not_mem_nil, false_imp_iff, implies_true, and_true] at hf)))
            clear M1 S1
            cases k
            · clear hK
              obtain ⟨X, hX⟩ : ∃ X, IntKind.i64.wrap (x * m) = X := ⟨_, rfl⟩
              obtain ⟨Y, hY⟩ : ∃ Y, IntKind.i64.wrap (n * 2 ^ P.toNat - X) = Y := ⟨_, rfl⟩
              obtain ⟨Z, hZ⟩ : ∃ Z, IntKind.i64.wrap (X - n * 2 ^ P.toNat) = Z := ⟨_, rfl⟩
              by_cases hs : Y < Z
              all_goals
                (have hn : Nonempty (Held u [(u.heap.size, 0, .int .i64 W), (u.heap.size, 1, .int .i64 P)]) := ⟨⟨_, hx⟩⟩; have hl0 : ∀ x : Held u [(u.heap.size, 0, .int .i64 W), (u.heap.size, 1, .int .i64 P)], x.it.cell? ⟨u.heap.size, 0, none⟩ = some (.int .i64 W) := fun x => x.at0; have hl1 : ∀ x : Held u [(u.heap.size, 0, .int .i64 W), (u.heap.size, 1, .int .i64 P)], x.it.cell? ⟨u.heap.size, 1, none⟩ = some (.int .i64 P) := fun x => x.at1; refine wp_region_hold [(u.heap.size, 0, .int .i64 W), (u.heap.size, 1, .int .i64 P)] hx (by kernel_rfl) (by kernel_rfl) ?_; (repeat (go_big_quiet_step ((fail)))); refine wpQuiet_nil ?_; intro _ hx; clear hn hl0 hl1)
                (try clear hf); (have hf := hx.2; simp only [List.forall_mem_cons, List.not_mem_nil, false_imp_iff, implies_true, and_true] at hf)
                clear hX hY hZ
                go_wp2_with (go_at_call 50; (with_reducible refine (storedFits_yes _ _ _ _ X1.out).mono ?_); rintro e w1 ⟨rfl, hb⟩; replace hx := hx.below hb; clear hb; (try clear hf); (have hf := hx.2; simp only [List.forall_mem_cons, List.not_mem_nil, false_imp_iff, implies_true, and_true] at hf))
                go_ret
                exact ⟨rfl, hb0.trans (hx.1.mono hb0.size)⟩
            · obtain ⟨g1, g2⟩ := hK rfl
              by_cases hs : n * 2 ^ P.toNat - x * m < x * m - n * 2 ^ P.toNat
              all_goals
                (have hn : Nonempty (Held u [(u.heap.size, 0, .int .i64 W), (u.heap.size, 1, .int .i64 P)]) := ⟨⟨_, hx⟩⟩; have hl0 : ∀ x : Held u [(u.heap.size, 0, .int .i64 W), (u.heap.size, 1, .int .i64 P)], x.it.cell? ⟨u.heap.size, 0, none⟩ = some (.int .i64 W) := fun x => x.at0; have hl1 : ∀ x : Held u [(u.heap.size, 0, .int .i64 W), (u.heap.size, 1, .int .i64 P)], x.it.cell? ⟨u.heap.size, 1, none⟩ = some (.int .i64 P) := fun x => x.at1; refine wp_region_hold [(u.heap.size, 0, .int .i64 W), (u.heap.size, 1, .int .i64 P)] hx (by kernel_rfl) (by kernel_rfl) ?_; (repeat (go_big_quiet_step ((fail)))); refine wpQuiet_nil ?_; intro _ hx; clear hn hl0 hl1)
                (try clear hf); (have hf := hx.2; simp only [List.forall_mem_cons, List.not_mem_nil, false_imp_iff, implies_true, and_true] at hf)
                go_wp2_with (go_at_call 50; (with_reducible refine (storedFits_yes _ _ _ _ X1.out).mono ?_); rintro e w1 ⟨rfl, hb⟩; replace hx := hx.below hb; clear hb; (try clear hf); (have hf := hx.2; simp only [List.forall_mem_cons, List.not_mem_nil, false_imp_iff, implies_true, and_true] at hf))
                go_ret
                exact ⟨ret_b (by simp; try omega), hb0.trans (hx.1.mono hb0.size)⟩
          · clear M2
            go_wp2_with (first | (go_at_call 29; (with_reducible refine (M1 _).mono ?_); rintro e w1 ⟨rfl, hb⟩; replace hx := hx.below hb; clear hb; (try clear hf); (have hf := hx.2; simp only [List.forall_mem_cons, List.not_mem_nil, false_imp_iff, implies_true, and_true] at hf)) | (go_at_call 27; (with_reducible refine (S1 _).mono ?_); rintro e w1 ⟨rfl, hb⟩; replace hx := hx.below hb; clear hb; (try clear hf); (have hf := hx.2; simp only [List.forall_mem_cons, List.not_mem_nil, false_imp_iff, implies_true, and_true] at hf)) | (go_at_call 49; (with_reducible refine (s_formatValid_yes _ _ _ V1.out).mono ?_); rintro e w1 ⟨rfl, hb⟩; replace hx := hx.below hb; clear hb; (try clear hf); (have hf := hx.2; simp only [List.forall_mem_cons, List.not_mem_nil, false_imp_iff, implies_true, and_true] at hf)))
            clear M1 S1
            cases k
            · clear hK
              obtain ⟨X, hX⟩ : ∃ X, IntKind.i64.wrap (x * m) = X := ⟨_, rfl⟩
              obtain ⟨Y, hY⟩ : ∃ Y, IntKind.i64.wrap (n * 2 ^ P.toNat - X) = Y := ⟨_, rfl⟩
              obtain ⟨Z, hZ⟩ : ∃ Z, IntKind.i64.wrap (X - n * 2 ^ P.toNat) = Z := ⟨_, rfl⟩
              by_cases hs : Y < Z
              all_goals
                (have hn : Nonempty (Held u [(u.heap.size, 0, .int .i64 W), (u.heap.size, 1, .int .i64 P)]) := ⟨⟨_, hx⟩⟩; have hl0 : ∀ x : Held u [(u.heap.size, 0, .int .i64 W), (u.heap.size, 1, .int .i64 P)], x.it.cell? ⟨u.heap.size, 0, none⟩ = some (.int .i64 W) := fun x => x.at0; have hl1 : ∀ x : Held u [(u.heap.size, 0, .int .i64 W), (u.heap.size, 1, .int .i64 P)], x.it.cell? ⟨u.heap.size, 1, none⟩ = some (.int .i64 P) := fun x => x.at1; refine wp_region_hold [(u.heap.size, 0, .int .i64 W), (u.heap.size, 1, .int .i64 P)] hx (by kernel_rfl) (by kernel_rfl) ?_; (repeat (go_big_quiet_step ((fail)))); refine wpQuiet_nil ?_; intro _ hx; clear hn hl0 hl1)
                (try clear hf); (have hf := hx.2; simp only [List.forall_mem_cons, List.not_mem_nil, false_imp_iff, implies_true, and_true] at hf)
                clear hX hY hZ
                go_wp2_with (go_at_call 50; (with_reducible refine (storedFits_yes _ _ _ _ X1.out).mono ?_); rintro e w1 ⟨rfl, hb⟩; replace hx := hx.below hb; clear hb; (try clear hf); (have hf := hx.2; simp only [List.forall_mem_cons, List.not_mem_nil, false_imp_iff, implies_true, and_true] at hf))
                go_ret
                exact ⟨rfl, hb0.trans (hx.1.mono hb0.size)⟩
            · obtain ⟨g1, g2⟩ := hK rfl
              by_cases hs : n * 2 ^ P.toNat - x * m < x * m - n * 2 ^ P.toNat
              all_goals
                (have hn : Nonempty (Held u [(u.heap.size, 0, .int .i64 W), (u.heap.size, 1, .int .i64 P)]) := ⟨⟨_, hx⟩⟩; have hl0 : ∀ x : Held u [(u.heap.size, 0, .int .i64 W), (u.heap.size, 1, .int .i64 P)], x.it.cell? ⟨u.heap.size, 0, none⟩ = some (.int .i64 W) := fun x => x.at0; have hl1 : ∀ x : Held u [(u.heap.size, 0, .int .i64 W), (u.heap.size, 1, .int .i64 P)], x.it.cell? ⟨u.heap.size, 1, none⟩ = some (.int .i64 P) := fun x => x.at1; refine wp_region_hold [(u.heap.size, 0, .int .i64 W), (u.heap.size, 1, .int .i64 P)] hx (by kernel_rfl) (by kernel_rfl) ?_; (repeat (go_big_quiet_step ((fail)))); refine wpQuiet_nil ?_; intro _ hx; clear hn hl0 hl1)
                (try clear hf); (have hf := hx.2; simp only [List.forall_mem_cons, List.not_mem_nil, false_imp_iff, implies_true, and_true] at hf)
                go_wp2_with (go_at_call 50; (with_reducible refine (storedFits_yes _ _ _ _ X1.out).mono ?_); rintro e w1 ⟨rfl, hb⟩; replace hx := hx.below hb; clear hb; (try clear hf); (have hf := hx.2; simp only [List.forall_mem_cons, List.not_mem_nil, false_imp_iff, implies_true, and_true] at hf))
                go_ret
                exact ⟨ret_b (by simp; try omega), hb0.trans (hx.1.mono hb0.size)⟩
          · clear M2
            go_wp2_with (first | (go_at_call 29; (with_reducible refine (M1 _).mono ?_); rintro e w1 ⟨rfl, hb⟩; replace hx := hx.below hb; clear hb; (try clear hf); (have hf := hx.2; simp only [List.forall_mem_cons, List.not_mem_nil, false_imp_iff, implies_true, and_true] at hf)) | (go_at_call 27; (with_reducible refine (S1 _).mono ?_); rintro e w1 ⟨rfl, hb⟩; replace hx := hx.below hb; clear hb; (try clear hf); (have hf := hx.2; simp only [List.forall_mem_cons, List.not_mem_nil, false_imp_iff, implies_true, and_true] at hf)) | (go_at_call 49; (with_reducible refine (s_formatValid_yes _ _ _ V1.out).mono ?_); rintro e w1 ⟨rfl, hb⟩; replace hx := hx.below hb; clear hb; (try clear hf); (have hf := hx.2; simp only [List.forall_mem_cons, List.not_mem_nil, false_imp_iff, implies_true, and_true] at hf)))
            clear M1 S1
            cases k
            · clear hK
              obtain ⟨X, hX⟩ : ∃ X, IntKind.i64.wrap (x * m) = X := ⟨_, rfl⟩
              obtain ⟨Y, hY⟩ : ∃ Y, IntKind.i64.wrap (n * 2 ^ P.toNat - X) = Y := ⟨_, rfl⟩
              obtain ⟨Z, hZ⟩ : ∃ Z, IntKind.i64.wrap (X - n * 2 ^ P.toNat) = Z := ⟨_, rfl⟩
              by_cases hs : Y < Z
              all_goals
                (have hn : Nonempty (Held u [(u.heap.size, 0, .int .i64 W), (u.heap.size, 1, .int .i64 P)]) := ⟨⟨_, hx⟩⟩; have hl0 : ∀ x : Held u [(u.heap.size, 0, .int .i64 W), (u.heap.size, 1, .int .i64 P)], x.it.cell? ⟨u.heap.size, 0, none⟩ = some (.int .i64 W) := fun x => x.at0; have hl1 : ∀ x : Held u [(u.heap.size, 0, .int .i64 W), (u.heap.size, 1, .int .i64 P)], x.it.cell? ⟨u.heap.size, 1, none⟩ = some (.int .i64 P) := fun x => x.at1; refine wp_region_hold [(u.heap.size, 0, .int .i64 W), (u.heap.size, 1, .int .i64 P)] hx (by kernel_rfl) (by kernel_rfl) ?_; (repeat (go_big_quiet_step ((fail)))); refine wpQuiet_nil ?_; intro _ hx; clear hn hl0 hl1)
                (try clear hf); (have hf := hx.2; simp only [List.forall_mem_cons, List.not_mem_nil, false_imp_iff, implies_true, and_true] at hf)
                clear hX hY hZ
                go_wp2_with (go_at_call 50; (with_reducible refine (storedFits_yes _ _ _ _ X1.out).mono ?_); rintro e w1 ⟨rfl, hb⟩; replace hx := hx.below hb; clear hb; (try clear hf); (have hf := hx.2; simp only [List.forall_mem_cons, List.not_mem_nil, false_imp_iff, implies_true, and_true] at hf))
                go_ret
                exact ⟨rfl, hb0.trans (hx.1.mono hb0.size)⟩
            · obtain ⟨g1, g2⟩ := hK rfl
              by_cases hs : n * 2 ^ P.toNat - x * m < x * m - n * 2 ^ P.toNat
              all_goals
                (have hn : Nonempty (Held u [(u.heap.size, 0, .int .i64 W), (u.heap.size, 1, .int .i64 P)]) := ⟨⟨_, hx⟩⟩; have hl0 : ∀ x : Held u [(u.heap.size, 0, .int .i64 W), (u.heap.size, 1, .int .i64 P)], x.it.cell? ⟨u.heap.size, 0, none⟩ = some (.int .i64 W) := fun x => x.at0; have hl1 : ∀ x : Held u [(u.heap.size, 0, .int .i64 W), (u.heap.size, 1, .int .i64 P)], x.it.cell? ⟨u.heap.size, 1, none⟩ = some (.int .i64 P) := fun x => x.at1; refine wp_region_hold [(u.heap.size, 0, .int .i64 W), (u.heap.size, 1, .int .i64 P)] hx (by kernel_rfl) (by kernel_rfl) ?_; (repeat (go_big_quiet_step ((fail)))); refine wpQuiet_nil ?_; intro _ hx; clear hn hl0 hl1)
                (try clear hf); (have hf := hx.2; simp only [List.forall_mem_cons, List.not_mem_nil, false_imp_iff, implies_true, and_true] at hf)
                go_wp2_with (go_at_call 50; (with_reducible refine (storedFits_yes _ _ _ _ X1.out).mono ?_); rintro e w1 ⟨rfl, hb⟩; replace hx := hx.below hb; clear hb; (try clear hf); (have hf := hx.2; simp only [List.forall_mem_cons, List.not_mem_nil, false_imp_iff, implies_true, and_true] at hf))
                go_ret
                exact ⟨ret_b (by simp; try omega), hb0.trans (hx.1.mono hb0.size)⟩
        · have N1 := Lib.hid (show ¬(((1 ≤ W ∧ W ≤ 12) ∧ 0 ≤ P ∧ P ≤ 16) ∧ (-1099511627776 ≤ n ∧ n ≤ 1099511627776) ∧ 1 ≤ m ∧ m ≤ 1099511627776) from fun hh => hm hh.2.2)
          have V1 := Lib.hid hv
          have hm' : m < 1 ∨ 1099511627776 < m := by omega
          clear hv hm
          (have hf := hx.2; simp only [List.forall_mem_cons, List.not_mem_nil, false_imp_iff, implies_true, and_true] at hf)
          rcases hm' with hm | hm
          all_goals
            go_wp2_with (first | (go_at_call 29; (with_reducible refine (fractionOf_no _ _ _ _ _ N1.out).mono ?_); rintro e w1 ⟨rfl, hb⟩; replace hx := hx.below hb; clear hb; (try clear hf); (have hf := hx.2; simp only [List.forall_mem_cons, List.not_mem_nil, false_imp_iff, implies_true, and_true] at hf)) | (go_at_call 27; (with_reducible refine (s_fractionOf_no _ _ _ _ _ N1.out).mono ?_); rintro e w1 ⟨rfl, hb⟩; replace hx := hx.below hb; clear hb; (try clear hf); (have hf := hx.2; simp only [List.forall_mem_cons, List.not_mem_nil, false_imp_iff, implies_true, and_true] at hf)) | (go_at_call 49; (with_reducible refine (s_formatValid_yes _ _ _ V1.out).mono ?_); rintro e w1 ⟨rfl, hb⟩; replace hx := hx.below hb; clear hb; (try clear hf); (have hf := hx.2; simp only [List.forall_mem_cons, List.not_mem_nil, false_imp_iff, implies_true, and_true] at hf)) | (go_at_call 26; (with_reducible refine (alive_b _).mono ?_); rintro e w1 ⟨rfl, hb⟩; replace hx := hx.below hb; clear hb; (try clear hf); (have hf := hx.2; simp only [List.forall_mem_cons, List.not_mem_nil, false_imp_iff, implies_true, and_true] at hf)))
            go_ret
            exact ⟨rfl, hb0.trans (hx.1.mono hb0.size)⟩
      · have N1 := Lib.hid (show ¬(((1 ≤ W ∧ W ≤ 12) ∧ 0 ≤ P ∧ P ≤ 16) ∧ (-1099511627776 ≤ n ∧ n ≤ 1099511627776) ∧ 1 ≤ m ∧ m ≤ 1099511627776) from fun hh => hn hh.2.1)
        have V1 := Lib.hid hv
        have hm' : n < -1099511627776 ∨ 1099511627776 < n := by omega
        clear hv hn
        (have hf := hx.2; simp only [List.forall_mem_cons, List.not_mem_nil, false_imp_iff, implies_true, and_true] at hf)
        rcases hm' with hm | hm
        all_goals
          go_wp2_with (first | (go_at_call 29; (with_reducible refine (fractionOf_no _ _ _ _ _ N1.out).mono ?_); rintro e w1 ⟨rfl, hb⟩; replace hx := hx.below hb; clear hb; (try clear hf); (have hf := hx.2; simp only [List.forall_mem_cons, List.not_mem_nil, false_imp_iff, implies_true, and_true] at hf)) | (go_at_call 27; (with_reducible refine (s_fractionOf_no _ _ _ _ _ N1.out).mono ?_); rintro e w1 ⟨rfl, hb⟩; replace hx := hx.below hb; clear hb; (try clear hf); (have hf := hx.2; simp only [List.forall_mem_cons, List.not_mem_nil, false_imp_iff, implies_true, and_true] at hf)) | (go_at_call 49; (with_reducible refine (s_formatValid_yes _ _ _ V1.out).mono ?_); rintro e w1 ⟨rfl, hb⟩; replace hx := hx.below hb; clear hb; (try clear hf); (have hf := hx.2; simp only [List.forall_mem_cons, List.not_mem_nil, false_imp_iff, implies_true, and_true] at hf)) | (go_at_call 26; (with_reducible refine (alive_b _).mono ?_); rintro e w1 ⟨rfl, hb⟩; replace hx := hx.below hb; clear hb; (try clear hf); (have hf := hx.2; simp only [List.forall_mem_cons, List.not_mem_nil, false_imp_iff, implies_true, and_true] at hf)))
          go_ret
          exact ⟨rfl, hb0.trans (hx.1.mono hb0.size)⟩
    · have N1 := Lib.hid (show ¬(((1 ≤ W ∧ W ≤ 12) ∧ 0 ≤ P ∧ P ≤ 16) ∧ (-1099511627776 ≤ n ∧ n ≤ 1099511627776) ∧ 1 ≤ m ∧ m ≤ 1099511627776) from fun hh => hv hh.1)
      have V1 := Lib.hid hv
      clear hv
      (have hf := hx.2; simp only [List.forall_mem_cons, List.not_mem_nil, false_imp_iff, implies_true, and_true] at hf)
      go_wp2_with (first | (go_at_call 29; (with_reducible refine (fractionOf_no _ _ _ _ _ N1.out).mono ?_); rintro e w1 ⟨rfl, hb⟩; replace hx := hx.below hb; clear hb; (try clear hf); (have hf := hx.2; simp only [List.forall_mem_cons, List.not_mem_nil, false_imp_iff, implies_true, and_true] at hf)) | (go_at_call 27; (with_reducible refine (s_fractionOf_no _ _ _ _ _ N1.out).mono ?_); rintro e w1 ⟨rfl, hb⟩; replace hx := hx.below hb; clear hb; (try clear hf); (have hf := hx.2; simp only [List.forall_mem_cons, List.not_mem_nil, false_imp_iff, implies_true, and_true] at hf)) | (go_at_call 49; (with_reducible refine (s_formatValid_no _ _ _ V1.out).mono ?_); rintro e w1 ⟨rfl, hb⟩; replace hx := hx.below hb; clear hb; (try clear hf); (have hf := hx.2; simp only [List.forall_mem_cons, List.not_mem_nil, false_imp_iff, implies_true, and_true] at hf)) | (go_at_call 26; (with_reducible refine (alive_b _).mono ?_); rintro e w1 ⟨rfl, hb⟩; replace hx := hx.below hb; clear hb; (try clear hf); (have hf := hx.2; simp only [List.forall_mem_cons, List.not_mem_nil, false_imp_iff, implies_true, and_true] at hf)))
      go_ret
      exact ⟨rfl, hb0.trans (hx.1.mono hb0.size)⟩

/-! The frame: after the kit's own shell (proof-skeleton). -/
theorem own : ownKnob Try.prog.godebug = none := by kernel_rfl
theorem laidOut : laidOutB Try.prog = true := by kernel_rfl

set_option linter.unusedVariables false in
set_option maxRecDepth 100000 in
theorem lifted (os : Os) (started : os.Started) (H : Type) (enc : TypeId × Value → H) :
    ReturnsInHanded {} Try.checked os 13 .any (Rows.fnFractionOfSpec.pre6 enc Try.prog Try.f13 Rows.fnFractionOfRow.domain false) (Rows.fnFractionOfSpec.post enc Try.prog Try.f13 false true false false) := by
  refine returnsInHanded_of_change (C := Try.checked) own started (by kernel_rfl) Try.func13
    (ChangeSpec.witness6 (enc := enc) (C := Try.checked) false ⟨#[], #[.slice none 0 0], []⟩ 8 (by kernel_rfl) (by kernel_rfl) (by kernel_rfl) (by kernel_rfl)) ?_
  intro W base args ds gs before hval0 hW hcnd _
  have hval : ∀ (j : Nat) t v, Try.f13.params[j]? = some t → args[j]? = some v → Value.okWide Try.prog W .any base t v := hval0
  have hW' := hW
  obtain ⟨p, q, hA0, hV, rfl, hfz, hnd⟩ := hW
  have hA : DataW.TrodAll enc Try.prog W 0 (fun _ => true) true Try.f13.params.toList args.toList ds p := hA0
  rw [Try.params13] at hA hval
  obtain ⟨v0, vs0, d0, ds0, p0, q0, hargs, rfl, rfl, h0, r0⟩ := trodAll_cons hA
  obtain ⟨rfl, rfl, rfl⟩ := trodAll_nil r0
  obtain rfl : args = #[v0] := by cases args; simp_all
  obtain ⟨rfl, rfl⟩ := trodVars_none hV
  have k0 := h0
  have lt0 : ∀ x ∈ p0, x.block < W.heap.size := by obtain ⟨m, hm⟩ := k0; exact DataW.trod_lt m _ _ _ hm
  obtain ⟨a0, len0, cap0, rfl⟩ := okWide_slice Try.underlying22 (hval 0 22 v0 rfl rfl)
  obtain ⟨z0, w0⟩ : ∃ zs, Row8 W W.heap.size a0 len0 cap0 zs := by
    obtain ⟨fuel, hf⟩ := h0
    rcases open_ints Try.underlying22 Try.underlying5 (by kernel_rfl) hf with ⟨hcs, _⟩ | ⟨x, l, c, zs, hcs, _, hl, hm, hz, _, hcell, hwz⟩
    · simp [Value.cells] at hcs
      obtain ⟨rfl, rfl, rfl⟩ := hcs
      exact ⟨fun _ => 0, Row8.nil W _⟩
    · simp [Value.cells] at hcs
      obtain ⟨rfl, rfl, rfl⟩ := hcs
      exact ⟨_, Row8.of_ints hl hm (by simpa using hz) hcell hwz⟩
  clear hA0 hval0
  refine (walk a0 len0 cap0 z0 W w0).mono fun e W' ⟨he, bel⟩ => ?_
  subst he
  exact ⟨_, rfl, _, _, _, [], _, [], hW', trodAll_mk1 (shut_bool Try.underlying4 _), (trodAll_cons_mk (Below.trod laidOut (by kernel_rfl) (of_decide_eq_true (by kernel_rfl)) k0 bel lt0) trodAll_mk0), rfl, bel.frame _, fun h => by cases h⟩

set_option maxRecDepth 100000 in
theorem closed : joinedFacts Try.prog 13 Try.f13 Rows.fnFractionOfSpec Rows.fnFractionOfRow = true := by
  unfold joinedFacts
  rw [mayEnter_ok, liftsFinal_ok, make_ok]
  kernel_rfl

theorem over : Rows.fnFractionOfRow.holds Try.pinned (OpenSpec.ofChange Rows.fnFractionOfSpec) :=
  OpenClaim.holds_of_wide 13 Try.f13 rfl rfl rfl rfl rfl rfl rfl ⟨rfl, rfl, rfl, rfl, rfl⟩ rfl rfl rfl rfl rfl (by kernel_rfl) Try.func13 closed
    (of_decide_eq_true (by kernel_rfl)) (by unfold Func.isWrapper; first | (rw [if_pos (by decide +kernel)]; kernel_rfl) | (rw [if_neg (by decide +kernel)]; exact ⟨rfl, rfl⟩))
    (fun os started H enc _ => lifted os started H enc)

/-- The statement. -/
theorem proved : Rows.FnFractionOfSaid := over
#print axioms proved

end Go.Proofs.Ytjbaegbdacpdnaa.fnFractionOf
