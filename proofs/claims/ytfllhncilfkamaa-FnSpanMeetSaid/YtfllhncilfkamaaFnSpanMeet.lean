/- Common numbers are in both: FnSpanMeet returns true for every code, and reads it alone. No condition. -/
import Derived.Test.YtfllhncilfkamaaLawMeet
import Derived.ShutString
import Derived.ChangeOld
namespace Go.Proofs.Ytfllhncilfkamaa.fnSpanMeet
open Go.ChangeShapes Go.WideShapes Go.ChangeAt Go.RowKit

set_option maxHeartbeats 4000000 in
theorem walk (a : Option Addr) (len cap : Nat) (zs : Nat → Int) (w : World) (h : Row8 w w.heap.size a len cap zs) :
    Calls Try.prog 4 #[.slice a len cap] w fun e w' => e = .returned (.bool true) ∧ Below w.heap.size w w' := by
  have hl : len ≤ 9223372036854775807 := Nat.le_trans h.1 h.2.1
  have H := Lib.hid h
  clear h
  by_cases hlen : 1048576 < len
  · go_enter Try.func4, Try.ntmps4
    go_wp2
    go_ret
    exact ⟨rfl, Below.refl _ _⟩
  · go_enter Try.func4, Try.ntmps4
    go_wp2_with fail
    refine (drawSpanMeet_any _ _ _ _ _ H.out).mono ?_
    rintro e u ⟨a, b, c, d, rfl, hb0⟩
    clear H
    have hx := hold_four u (.int .i64 a) (.int .i64 b) (.int .i64 c) (.int .i64 d) 24 24
    obtain ⟨X, Y, k, M1, S1, M2, hN, hF, hK⟩ := meet_pack a b c d
    (have hf := hx.2; simp only [List.forall_mem_cons, List.not_mem_nil, false_imp_iff, implies_true, and_true] at hf)
    by_cases v1 : Fx.svalid a b
    · by_cases v2 : Fx.svalid c d
      · have V1 := Lib.hid v1
        have V2 := Lib.hid v2
        have HN := Lib.hid hN
        have HK := Lib.hid hK
        clear v1 v2 hN hF hK
        go_wp2_with fail
        (go_at_call 24; (with_reducible refine (M1 _).mono ?_); rintro e y1 ⟨rfl, hb⟩; replace hx := (hx.below hb).box (.int .i64 (X)) (.int .i64 (Y)) 24; clear hb; (try clear hf); (have hf := hx.2; simp only [List.forall_mem_cons, List.not_mem_nil, false_imp_iff, implies_true, and_true] at hf))
        go_wp2_with fail
        (go_at_call 25; (with_reducible refine (S1 _).mono ?_); rintro e y2 ⟨rfl, hb⟩; replace hx := (hx.below hb).box (.int .i64 (X)) (.int .i64 (Y)) 24; clear hb; (try clear hf); (have hf := hx.2; simp only [List.forall_mem_cons, List.not_mem_nil, false_imp_iff, implies_true, and_true] at hf))
        go_wp2_with fail
        (go_at_call 24; (with_reducible refine (M2 _).mono ?_); rintro e y3 ⟨rfl, hb⟩; replace hx := (hx.below hb).box (.int .i64 (X)) (.int .i64 (Y)) 24; clear hb; (try clear hf); (have hf := hx.2; simp only [List.forall_mem_cons, List.not_mem_nil, false_imp_iff, implies_true, and_true] at hf))
        go_wp2_with (first | (go_at_call 26; (with_reducible refine (s_spanValid_yes _ _ _ V1.out).mono ?_); rintro e w1 ⟨rfl, hb⟩; replace hx := hx.below hb; clear hb; (try clear hf); (have hf := hx.2; simp only [List.forall_mem_cons, List.not_mem_nil, false_imp_iff, implies_true, and_true] at hf)) | (go_at_call 26; (with_reducible refine (s_spanValid_yes _ _ _ V2.out).mono ?_); rintro e w1 ⟨rfl, hb⟩; replace hx := hx.below hb; clear hb; (try clear hf); (have hf := hx.2; simp only [List.forall_mem_cons, List.not_mem_nil, false_imp_iff, implies_true, and_true] at hf)))
        clear M1 S1 M2
        have hx := hx.row4 (.int .i64 a) (.int .i64 b) (.int .i64 c) (.int .i64 d) 3
        replace hx := Hold.sub (L' := [(u.heap.size, 0, .int .i64 a), (u.heap.size, 1, .int .i64 b), (u.heap.size + 1, 0, .int .i64 c), (u.heap.size + 1, 1, .int .i64 d), (y1.heap.size, 0, .int .i64 X), (y1.heap.size, 1, .int .i64 Y), (w1.heap.size, 0, .int .i64 a), (w1.heap.size, 1, .int .i64 b), (w1.heap.size, 2, .int .i64 c), (w1.heap.size, 3, .int .i64 d)]) hx (by simp)
        go_loopw [12] (fun v w' => ∃ n : Nat, n ≤ 4 ∧ v = .int .i64 n ∧ Hold u [(u.heap.size, 0, .int .i64 a), (u.heap.size, 1, .int .i64 b), (u.heap.size + 1, 0, .int .i64 c), (u.heap.size + 1, 1, .int .i64 d), (y1.heap.size, 0, .int .i64 X), (y1.heap.size, 1, .int .i64 Y), (w1.heap.size, 0, .int .i64 a), (w1.heap.size, 1, .int .i64 b), (w1.heap.size, 2, .int .i64 c), (w1.heap.size, 3, .int .i64 d)] w') (fun v _ => (4 - intOf v).toNat)
        case atStart => exact ⟨0, by omega, rfl, hx⟩
        case round =>
          clear hx
          obtain ⟨n, hn, rfl, hx⟩ := hrel
          by_cases h4 : n ≤ 3
          · obtain ⟨v, hv⟩ : ∃ v : Int, (w1.heap.size, n, Value.int .i64 v) ∈ [(u.heap.size, 0, Value.int .i64 a), (u.heap.size, 1, .int .i64 b), (u.heap.size + 1, 0, .int .i64 c), (u.heap.size + 1, 1, .int .i64 d), (y1.heap.size, 0, .int .i64 X), (y1.heap.size, 1, .int .i64 Y), (w1.heap.size, 0, .int .i64 a), (w1.heap.size, 1, .int .i64 b), (w1.heap.size, 2, .int .i64 c), (w1.heap.size, 3, .int .i64 d)] := by
              obtain rfl | rfl | rfl | rfl : n = 0 ∨ n = 1 ∨ n = 2 ∨ n = 3 := by omega
              · exact ⟨a, by simp⟩
              · exact ⟨b, by simp⟩
              · exact ⟨c, by simp⟩
              · exact ⟨d, by simp⟩
            replace hx := Hold.more hx hv
            clear hv
            have K := HK.out v V1.out V2.out
            have G1 := has_at a b v
            have G2 := has_at c d v
            have G3 := has_at X Y v
            generalize decide (Fx.svalid a b ∧ a ≤ v ∧ v ≤ b) = p1 at *
            generalize decide (Fx.svalid c d ∧ c ≤ v ∧ v ≤ d) = p2 at *
            generalize decide (Fx.svalid X Y ∧ X ≤ v ∧ v ≤ Y) = p3 at *
            have KK := Lib.hid K
            clear K
            have hn4 : (n : Int) < 4 := by omega
            (try clear hf); (have hf := hx.2; simp only [List.forall_mem_cons, List.not_mem_nil, false_imp_iff, implies_true, and_true] at hf)
            go_wp2
            cases p1 <;> cases p2 <;> cases p3 <;> cases k
            all_goals first
              | (exfalso; exact absurd KK.out (by decide))
              | ((have hn : Nonempty (Held u [(w1.heap.size, n, .int .i64 v), (u.heap.size, 0, .int .i64 a), (u.heap.size, 1, .int .i64 b), (u.heap.size + 1, 0, .int .i64 c), (u.heap.size + 1, 1, .int .i64 d), (y1.heap.size, 0, .int .i64 X), (y1.heap.size, 1, .int .i64 Y), (w1.heap.size, 0, .int .i64 a), (w1.heap.size, 1, .int .i64 b), (w1.heap.size, 2, .int .i64 c), (w1.heap.size, 3, .int .i64 d)]) := ⟨⟨_, hx⟩⟩; have hl0 : ∀ x : Held u [(w1.heap.size, n, .int .i64 v), (u.heap.size, 0, .int .i64 a), (u.heap.size, 1, .int .i64 b), (u.heap.size + 1, 0, .int .i64 c), (u.heap.size + 1, 1, .int .i64 d), (y1.heap.size, 0, .int .i64 X), (y1.heap.size, 1, .int .i64 Y), (w1.heap.size, 0, .int .i64 a), (w1.heap.size, 1, .int .i64 b), (w1.heap.size, 2, .int .i64 c), (w1.heap.size, 3, .int .i64 d)], x.it.cell? ⟨w1.heap.size, n, none⟩ = some (.int .i64 v) := fun x => x.at0; have hl1 : ∀ x : Held u [(w1.heap.size, n, .int .i64 v), (u.heap.size, 0, .int .i64 a), (u.heap.size, 1, .int .i64 b), (u.heap.size + 1, 0, .int .i64 c), (u.heap.size + 1, 1, .int .i64 d), (y1.heap.size, 0, .int .i64 X), (y1.heap.size, 1, .int .i64 Y), (w1.heap.size, 0, .int .i64 a), (w1.heap.size, 1, .int .i64 b), (w1.heap.size, 2, .int .i64 c), (w1.heap.size, 3, .int .i64 d)], x.it.cell? ⟨u.heap.size, 0, none⟩ = some (.int .i64 a) := fun x => x.at1; have hl2 : ∀ x : Held u [(w1.heap.size, n, .int .i64 v), (u.heap.size, 0, .int .i64 a), (u.heap.size, 1, .int .i64 b), (u.heap.size + 1, 0, .int .i64 c), (u.heap.size + 1, 1, .int .i64 d), (y1.heap.size, 0, .int .i64 X), (y1.heap.size, 1, .int .i64 Y), (w1.heap.size, 0, .int .i64 a), (w1.heap.size, 1, .int .i64 b), (w1.heap.size, 2, .int .i64 c), (w1.heap.size, 3, .int .i64 d)], x.it.cell? ⟨u.heap.size, 1, none⟩ = some (.int .i64 b) := fun x => x.at2; have hl3 : ∀ x : Held u [(w1.heap.size, n, .int .i64 v), (u.heap.size, 0, .int .i64 a), (u.heap.size, 1, .int .i64 b), (u.heap.size + 1, 0, .int .i64 c), (u.heap.size + 1, 1, .int .i64 d), (y1.heap.size, 0, .int .i64 X), (y1.heap.size, 1, .int .i64 Y), (w1.heap.size, 0, .int .i64 a), (w1.heap.size, 1, .int .i64 b), (w1.heap.size, 2, .int .i64 c), (w1.heap.size, 3, .int .i64 d)], x.it.cell? ⟨u.heap.size + 1, 0, none⟩ = some (.int .i64 c) := fun x => x.at3; have hl4 : ∀ x : Held u [(w1.heap.size, n, .int .i64 v), (u.heap.size, 0, .int .i64 a), (u.heap.size, 1, .int .i64 b), (u.heap.size + 1, 0, .int .i64 c), (u.heap.size + 1, 1, .int .i64 d), (y1.heap.size, 0, .int .i64 X), (y1.heap.size, 1, .int .i64 Y), (w1.heap.size, 0, .int .i64 a), (w1.heap.size, 1, .int .i64 b), (w1.heap.size, 2, .int .i64 c), (w1.heap.size, 3, .int .i64 d)], x.it.cell? ⟨u.heap.size + 1, 1, none⟩ = some (.int .i64 d) := fun x => x.at4; have hl5 : ∀ x : Held u [(w1.heap.size, n, .int .i64 v), (u.heap.size, 0, .int .i64 a), (u.heap.size, 1, .int .i64 b), (u.heap.size + 1, 0, .int .i64 c), (u.heap.size + 1, 1, .int .i64 d), (y1.heap.size, 0, .int .i64 X), (y1.heap.size, 1, .int .i64 Y), (w1.heap.size, 0, .int .i64 a), (w1.heap.size, 1, .int .i64 b), (w1.heap.size, 2, .int .i64 c), (w1.heap.size, 3, .int .i64 d)], x.it.cell? ⟨y1.heap.size, 0, none⟩ = some (.int .i64 X) := fun x => x.at5; have hl6 : ∀ x : Held u [(w1.heap.size, n, .int .i64 v), (u.heap.size, 0, .int .i64 a), (u.heap.size, 1, .int .i64 b), (u.heap.size + 1, 0, .int .i64 c), (u.heap.size + 1, 1, .int .i64 d), (y1.heap.size, 0, .int .i64 X), (y1.heap.size, 1, .int .i64 Y), (w1.heap.size, 0, .int .i64 a), (w1.heap.size, 1, .int .i64 b), (w1.heap.size, 2, .int .i64 c), (w1.heap.size, 3, .int .i64 d)], x.it.cell? ⟨y1.heap.size, 1, none⟩ = some (.int .i64 Y) := fun x => x.at6; have hl7 : ∀ x : Held u [(w1.heap.size, n, .int .i64 v), (u.heap.size, 0, .int .i64 a), (u.heap.size, 1, .int .i64 b), (u.heap.size + 1, 0, .int .i64 c), (u.heap.size + 1, 1, .int .i64 d), (y1.heap.size, 0, .int .i64 X), (y1.heap.size, 1, .int .i64 Y), (w1.heap.size, 0, .int .i64 a), (w1.heap.size, 1, .int .i64 b), (w1.heap.size, 2, .int .i64 c), (w1.heap.size, 3, .int .i64 d)], x.it.cell? ⟨w1.heap.size, 0, none⟩ = some (.int .i64 a) := fun x => x.at7; have hl8 : ∀ x : Held u [(w1.heap.size, n, .int .i64 v), (u.heap.size, 0, .int .i64 a), (u.heap.size, 1, .int .i64 b), (u.heap.size + 1, 0, .int .i64 c), (u.heap.size + 1, 1, .int .i64 d), (y1.heap.size, 0, .int .i64 X), (y1.heap.size, 1, .int .i64 Y), (w1.heap.size, 0, .int .i64 a), (w1.heap.size, 1, .int .i64 b), (w1.heap.size, 2, .int .i64 c), (w1.heap.size, 3, .int .i64 d)], x.it.cell? ⟨w1.heap.size, 1, none⟩ = some (.int .i64 b) := fun x => x.at8; have hl9 : ∀ x : Held u [(w1.heap.size, n, .int .i64 v), (u.heap.size, 0, .int .i64 a), (u.heap.size, 1, .int .i64 b), (u.heap.size + 1, 0, .int .i64 c), (u.heap.size + 1, 1, .int .i64 d), (y1.heap.size, 0, .int .i64 X), (y1.heap.size, 1, .int .i64 Y), (w1.heap.size, 0, .int .i64 a), (w1.heap.size, 1, .int .i64 b), (w1.heap.size, 2, .int .i64 c), (w1.heap.size, 3, .int .i64 d)], x.it.cell? ⟨w1.heap.size, 2, none⟩ = some (.int .i64 c) := fun x => x.at9; have hl10 : ∀ x : Held u [(w1.heap.size, n, .int .i64 v), (u.heap.size, 0, .int .i64 a), (u.heap.size, 1, .int .i64 b), (u.heap.size + 1, 0, .int .i64 c), (u.heap.size + 1, 1, .int .i64 d), (y1.heap.size, 0, .int .i64 X), (y1.heap.size, 1, .int .i64 Y), (w1.heap.size, 0, .int .i64 a), (w1.heap.size, 1, .int .i64 b), (w1.heap.size, 2, .int .i64 c), (w1.heap.size, 3, .int .i64 d)], x.it.cell? ⟨w1.heap.size, 3, none⟩ = some (.int .i64 d) := fun x => x.at10; refine wp_region_hold [(w1.heap.size, n, .int .i64 v), (u.heap.size, 0, .int .i64 a), (u.heap.size, 1, .int .i64 b), (u.heap.size + 1, 0, .int .i64 c), (u.heap.size + 1, 1, .int .i64 d), (y1.heap.size, 0, .int .i64 X), (y1.heap.size, 1, .int .i64 Y), (w1.heap.size, 0, .int .i64 a), (w1.heap.size, 1, .int .i64 b), (w1.heap.size, 2, .int .i64 c), (w1.heap.size, 3, .int .i64 d)] hx (by kernel_rfl) (by kernel_rfl) ?_; (repeat (go_big_quiet_step ((first | (go_at_call 28; first | (with_reducible exact Calls.held (G1 _)) | (with_reducible exact Calls.held_same (G1 _))) | (go_at_call 28; first | (with_reducible exact Calls.held (G2 _)) | (with_reducible exact Calls.held_same (G2 _))) | (go_at_call 28; first | (with_reducible exact Calls.held (G3 _)) | (with_reducible exact Calls.held_same (G3 _))))))); refine wpQuiet_nil ?_; clear hx; intro _ hx; clear hn hl0 hl1 hl2 hl3 hl4 hl5 hl6 hl7 hl8 hl9 hl10)
                 go_wp2
                 go_roundw
                 case rel => exact ⟨n + 1, by omega, by go_num, Hold.less hx⟩
                 case measure => simp [intOf]; omega)
          · have h5 : n = 4 := by omega
            subst h5
            (try clear hf); (have hf := hx.2; simp only [List.forall_mem_cons, List.not_mem_nil, false_imp_iff, implies_true, and_true] at hf)
            cases k
            · obtain ⟨rfl, rfl⟩ := HN.out rfl
              go_wp2
              go_ret
              exact ⟨rfl, hb0.trans (hx.1.mono hb0.size)⟩
            · go_wp2
              go_ret
              exact ⟨rfl, hb0.trans (hx.1.mono hb0.size)⟩
      · have V1 := Lib.hid v1
        have V2 := Lib.hid v2
        obtain rfl : k = false := hF fun q => v2 q.2
        obtain ⟨rfl, rfl⟩ := hN rfl
        clear v1 v2 hN hF hK
        go_wp2_with (first | (go_at_call 24; (with_reducible refine (M1 _).mono ?_); rintro e w1 ⟨rfl, hb⟩; replace hx := (hx.below hb).box (.int .i64 (0)) (.int .i64 (0)) 24; clear hb; (try clear hf); (have hf := hx.2; simp only [List.forall_mem_cons, List.not_mem_nil, false_imp_iff, implies_true, and_true] at hf)) | (go_at_call 25; (with_reducible refine (S1 _).mono ?_); rintro e w1 ⟨rfl, hb⟩; replace hx := (hx.below hb).box (.int .i64 (0)) (.int .i64 (0)) 24; clear hb; (try clear hf); (have hf := hx.2; simp only [List.forall_mem_cons, List.not_mem_nil, false_imp_iff, implies_true, and_true] at hf)) | (go_at_call 24; (with_reducible refine (M2 _).mono ?_); rintro e w1 ⟨rfl, hb⟩; replace hx := (hx.below hb).box (.int .i64 (0)) (.int .i64 (0)) 24; clear hb; (try clear hf); (have hf := hx.2; simp only [List.forall_mem_cons, List.not_mem_nil, false_imp_iff, implies_true, and_true] at hf)) | (go_at_call 26; (with_reducible refine (s_spanValid_yes _ _ _ V1.out).mono ?_); rintro e w1 ⟨rfl, hb⟩; replace hx := hx.below hb; clear hb; (try clear hf); (have hf := hx.2; simp only [List.forall_mem_cons, List.not_mem_nil, false_imp_iff, implies_true, and_true] at hf)) | (go_at_call 26; (with_reducible refine (s_spanValid_no _ _ _ V2.out).mono ?_); rintro e w1 ⟨rfl, hb⟩; replace hx := hx.below hb; clear hb; (try clear hf); (have hf := hx.2; simp only [List.forall_mem_cons, List.not_mem_nil, false_imp_iff, implies_true, and_true] at hf)) | (go_at_call 27; (with_reducible refine (alive_b _).mono ?_); rintro e w1 ⟨rfl, hb⟩; replace hx := hx.below hb; clear hb; (try clear hf); (have hf := hx.2; simp only [List.forall_mem_cons, List.not_mem_nil, false_imp_iff, implies_true, and_true] at hf)))
        go_ret
        exact ⟨rfl, hb0.trans (hx.1.mono hb0.size)⟩
    · have V1 := Lib.hid v1
      obtain rfl : k = false := hF fun q => v1 q.1
      obtain ⟨rfl, rfl⟩ := hN rfl
      clear v1 hN hF hK
      go_wp2_with (first | (go_at_call 24; (with_reducible refine (M1 _).mono ?_); rintro e w1 ⟨rfl, hb⟩; replace hx := (hx.below hb).box (.int .i64 (0)) (.int .i64 (0)) 24; clear hb; (try clear hf); (have hf := hx.2; simp only [List.forall_mem_cons, List.not_mem_nil, false_imp_iff, implies_true, and_true] at hf)) | (go_at_call 25; (with_reducible refine (S1 _).mono ?_); rintro e w1 ⟨rfl, hb⟩; replace hx := (hx.below hb).box (.int .i64 (0)) (.int .i64 (0)) 24; clear hb; (try clear hf); (have hf := hx.2; simp only [List.forall_mem_cons, List.not_mem_nil, false_imp_iff, implies_true, and_true] at hf)) | (go_at_call 24; (with_reducible refine (M2 _).mono ?_); rintro e w1 ⟨rfl, hb⟩; replace hx := (hx.below hb).box (.int .i64 (0)) (.int .i64 (0)) 24; clear hb; (try clear hf); (have hf := hx.2; simp only [List.forall_mem_cons, List.not_mem_nil, false_imp_iff, implies_true, and_true] at hf)) | (go_at_call 26; (with_reducible refine (s_spanValid_no _ _ _ V1.out).mono ?_); rintro e w1 ⟨rfl, hb⟩; replace hx := hx.below hb; clear hb; (try clear hf); (have hf := hx.2; simp only [List.forall_mem_cons, List.not_mem_nil, false_imp_iff, implies_true, and_true] at hf)) | (go_at_call 27; (with_reducible refine (alive_b _).mono ?_); rintro e w1 ⟨rfl, hb⟩; replace hx := hx.below hb; clear hb; (try clear hf); (have hf := hx.2; simp only [List.forall_mem_cons, List.not_mem_nil, false_imp_iff, implies_true, and_true] at hf)))
      go_ret
      exact ⟨rfl, hb0.trans (hx.1.mono hb0.size)⟩

/-! The frame: after the kit's own shell (proof-skeleton). -/
theorem own : ownKnob Try.prog.godebug = none := by kernel_rfl
theorem laidOut : laidOutB Try.prog = true := by kernel_rfl

set_option linter.unusedVariables false in
set_option maxRecDepth 100000 in
theorem lifted (os : Os) (started : os.Started) (H : Type) (enc : TypeId × Value → H) :
    ReturnsInHanded {} Try.checked os 4 .any (Rows.fnSpanMeetSpec.pre6 enc Try.prog Try.f4 Rows.fnSpanMeetRow.domain false) (Rows.fnSpanMeetSpec.post enc Try.prog Try.f4 false true false false) := by
  refine returnsInHanded_of_change (C := Try.checked) own started (by kernel_rfl) Try.func4
    (ChangeSpec.witness6 (enc := enc) (C := Try.checked) false ⟨#[], #[.slice none 0 0], []⟩ 8 (by kernel_rfl) (by kernel_rfl) (by kernel_rfl) (by kernel_rfl)) ?_
  intro W base args ds gs before hval0 hW hcnd _
  have hval : ∀ (j : Nat) t v, Try.f4.params[j]? = some t → args[j]? = some v → Value.okWide Try.prog W .any base t v := hval0
  have hW' := hW
  obtain ⟨p, q, hA0, hV, rfl, hfz, hnd⟩ := hW
  have hA : DataW.TrodAll enc Try.prog W 0 (fun _ => true) true Try.f4.params.toList args.toList ds p := hA0
  rw [Try.params4] at hA hval
  obtain ⟨v0, vs0, d0, ds0, p0, q0, hargs, rfl, rfl, h0, r0⟩ := trodAll_cons hA
  obtain ⟨rfl, rfl, rfl⟩ := trodAll_nil r0
  obtain rfl : args = #[v0] := by cases args; simp_all
  obtain ⟨rfl, rfl⟩ := trodVars_none hV
  have k0 := h0
  have lt0 : ∀ x ∈ p0, x.block < W.heap.size := by obtain ⟨m, hm⟩ := k0; exact DataW.trod_lt m _ _ _ hm
  obtain ⟨a0, len0, cap0, rfl⟩ := okWide_slice Try.underlying30 (hval 0 30 v0 rfl rfl)
  obtain ⟨z0, w0⟩ : ∃ zs, Row8 W W.heap.size a0 len0 cap0 zs := by
    obtain ⟨fuel, hf⟩ := h0
    rcases open_ints Try.underlying30 Try.underlying5 (by kernel_rfl) hf with ⟨hcs, _⟩ | ⟨x, l, c, zs, hcs, _, hl, hm, hz, _, hcell, hwz⟩
    · simp [Value.cells] at hcs
      obtain ⟨rfl, rfl, rfl⟩ := hcs
      exact ⟨fun _ => 0, Row8.nil W _⟩
    · simp [Value.cells] at hcs
      obtain ⟨rfl, rfl, rfl⟩ := hcs
      exact ⟨_, Row8.of_ints hl hm (by simpa using hz) hcell hwz⟩
  clear hA0 hval0
  refine (walk a0 len0 cap0 z0 W w0).mono fun e W' ⟨he, bel⟩ => ?_
  subst he
  exact ⟨_, rfl, _, _, _, [], _, [], hW', trodAll_mk1 (shut_bool Try.underlying4 _), (trodAll_cons_mk (Below.trod laidOut (by kernel_rfl) (of_decide_eq_true (by kernel_rfl)) k0 bel lt0) trodAll_mk0), rfl, bel.frame _, fun h => by cases h⟩

set_option maxRecDepth 100000 in
theorem closed : joinedFacts Try.prog 4 Try.f4 Rows.fnSpanMeetSpec Rows.fnSpanMeetRow = true := by
  unfold joinedFacts
  rw [mayEnter_ok, liftsFinal_ok, make_ok]
  kernel_rfl

theorem over : Rows.fnSpanMeetRow.holds Try.pinned (OpenSpec.ofChange Rows.fnSpanMeetSpec) :=
  OpenClaim.holds_of_wide 4 Try.f4 rfl rfl rfl rfl rfl rfl rfl ⟨rfl, rfl, rfl, rfl, rfl⟩ rfl rfl rfl rfl rfl (by kernel_rfl) Try.func4 closed
    (of_decide_eq_true (by kernel_rfl)) (by unfold Func.isWrapper; first | (rw [if_pos (by decide +kernel)]; kernel_rfl) | (rw [if_neg (by decide +kernel)]; exact ⟨rfl, rfl⟩))
    (fun os started H enc _ => lifted os started H enc)

/-- The statement. -/
theorem proved : Rows.FnSpanMeetSaid := over
#print axioms proved

end Go.Proofs.Ytfllhncilfkamaa.fnSpanMeet
