/-
  The walks of the functions on formats and stored numbers.
-/
import Derived.Test.YtfllhncilfkamaaInt
import Derived.Test.YtfllhncilfkamaaMathB
import Derived.Deep.RegionWith
import Derived.Deep.RegionHeld3
import Derived.Test.YtfllhncilfkamaaClass
namespace Go.Proofs.Ytfllhncilfkamaa
open Go.RowKit

set_option maxHeartbeats 400000 in
theorem formatValid_yes (W P : Int) (w : World) (h : (1 ≤ W ∧ W ≤ 12) ∧ 0 ≤ P ∧ P ≤ 16) :
    Calls Try.prog 77 #[.agg #[.int .i64 W, .int .i64 P]] w fun e w' => e = .returned (.bool true) ∧ Below w.heap.size w w' := by
  go_enter Try.func77, Try.ntmps77
  go_wp2
  go_ret
  exact ⟨rfl, by go_grown⟩

set_option maxHeartbeats 400000 in
theorem formatValid_no (W P : Int) (w : World) (h : ¬((1 ≤ W ∧ W ≤ 12) ∧ 0 ≤ P ∧ P ≤ 16)) :
    Calls Try.prog 77 #[.agg #[.int .i64 W, .int .i64 P]] w fun e w' => e = .returned (.bool false) ∧ Below w.heap.size w w' := by
  go_enter Try.func77, Try.ntmps77
  go_wp2
  all_goals go_ret
  all_goals exact ⟨ret_b (by simp; try omega), by go_grown⟩

set_option maxHeartbeats 400000 in
theorem least_any (W P : Int) (w : World) (h : (1 ≤ W ∧ W ≤ 12) ∧ 0 ≤ P ∧ P ≤ 16) :
    Calls Try.prog 78 #[.agg #[.int .i64 W, .int .i64 P]] w fun e w' => e = .returned (.int .i64 (-2 ^ (W + P).toNat)) ∧ Below w.heap.size w w' := by
  have hp := Fx.two_pow_le (W + P).toNat (by omega)
  go_enter Try.func78, Try.ntmps78
  go_wp2
  go_ret
  exact ⟨rfl, by go_grown⟩

set_option maxHeartbeats 400000 in
theorem greatest_any (W P : Int) (w : World) (h : (1 ≤ W ∧ W ≤ 12) ∧ 0 ≤ P ∧ P ≤ 16) :
    Calls Try.prog 71 #[.agg #[.int .i64 W, .int .i64 P]] w fun e w' => e = .returned (.int .i64 (2 ^ (W + P).toNat - 1)) ∧ Below w.heap.size w w' := by
  have hp := Fx.two_pow_le (W + P).toNat (by omega)
  go_enter Try.func71, Try.ntmps71
  go_wp2
  go_ret
  exact ⟨rfl, by go_grown⟩

set_option maxHeartbeats 400000 in
theorem storedFits_yes (W P n : Int) (w : World) (h : ((1 ≤ W ∧ W ≤ 12) ∧ 0 ≤ P ∧ P ≤ 16) ∧ -2 ^ (W + P).toNat ≤ n ∧ n ≤ 2 ^ (W + P).toNat - 1) :
    Calls Try.prog 50 #[.agg #[.int .i64 W, .int .i64 P], .int .i64 n] w fun e w' => e = .returned (.bool true) ∧ Below w.heap.size w w' := by
  have hx := box_two w (.int .i64 W) (.int .i64 P) 52
  go_enter Try.func50, Try.ntmps50
  go_wp2_with (first | (go_at_call 77; refine (formatValid_yes _ _ _ ?_).mono ?_; omega; rintro e w1 ⟨rfl, hb⟩; (have hx := keep_two (w := w) hb hx); clear hb) | (go_at_call 78; refine (least_any _ _ _ ?_).mono ?_; omega; rintro e w1 ⟨rfl, hb⟩; (have hx := keep_two (w := w) hb hx); clear hb) | (go_at_call 71; refine (greatest_any _ _ _ ?_).mono ?_; omega; rintro e w1 ⟨rfl, hb⟩; (have hx := keep_two (w := w) hb hx); clear hb))
  go_ret
  exact ⟨rfl, hx.1⟩

set_option maxHeartbeats 400000 in
theorem storedFits_no (W P n : Int) (w : World) (h : ¬(((1 ≤ W ∧ W ≤ 12) ∧ 0 ≤ P ∧ P ≤ 16) ∧ -2 ^ (W + P).toNat ≤ n ∧ n ≤ 2 ^ (W + P).toNat - 1)) :
    Calls Try.prog 50 #[.agg #[.int .i64 W, .int .i64 P], .int .i64 n] w fun e w' => e = .returned (.bool false) ∧ Below w.heap.size w w' := by
  have hx := box_two w (.int .i64 W) (.int .i64 P) 52
  by_cases hv : (1 ≤ W ∧ W ≤ 12) ∧ 0 ≤ P ∧ P ≤ 16
  · have H := Lib.hid h
    by_cases h1 : -2 ^ (W + P).toNat ≤ n
    · have h2 : 2 ^ (W + P).toNat - 1 < n := by omega
      clear h
      go_enter Try.func50, Try.ntmps50
      go_wp2_with (first | (go_at_call 77; refine (formatValid_yes _ _ _ ?_).mono ?_; omega; rintro e w1 ⟨rfl, hb⟩; (have hx := keep_two (w := w) hb hx); clear hb) | (go_at_call 78; refine (least_any _ _ _ ?_).mono ?_; omega; rintro e w1 ⟨rfl, hb⟩; (have hx := keep_two (w := w) hb hx); clear hb) | (go_at_call 71; refine (greatest_any _ _ _ ?_).mono ?_; omega; rintro e w1 ⟨rfl, hb⟩; (have hx := keep_two (w := w) hb hx); clear hb))
      go_ret
      exact ⟨ret_b (by simp; try omega), hx.1⟩
    · have h2 : n < -2 ^ (W + P).toNat := by omega
      clear h h1
      go_enter Try.func50, Try.ntmps50
      go_wp2_with (first | (go_at_call 77; refine (formatValid_yes _ _ _ ?_).mono ?_; omega; rintro e w1 ⟨rfl, hb⟩; (have hx := keep_two (w := w) hb hx); clear hb) | (go_at_call 78; refine (least_any _ _ _ ?_).mono ?_; omega; rintro e w1 ⟨rfl, hb⟩; (have hx := keep_two (w := w) hb hx); clear hb) | (go_at_call 71; refine (greatest_any _ _ _ ?_).mono ?_; omega; rintro e w1 ⟨rfl, hb⟩; (have hx := keep_two (w := w) hb hx); clear hb))
      go_ret
      exact ⟨ret_b (by simp; try omega), hx.1⟩
  · clear h
    go_enter Try.func50, Try.ntmps50
    go_wp2_with (go_at_call 77; refine (formatValid_no _ _ _ ?_).mono ?_; omega; rintro e w1 ⟨rfl, hb⟩; (have hx := keep_two (w := w) hb hx); clear hb)
    go_ret
    exact ⟨rfl, hx.1⟩

set_option maxHeartbeats 1000000 in
theorem cutStored_yes (W P n : Int) (w : World) (h : (1 ≤ W ∧ W ≤ 12) ∧ 0 ≤ P ∧ P ≤ 16) :
    Calls Try.prog 72 #[.agg #[.int .i64 W, .int .i64 P], .int .i64 n] w fun e w' => e = .returned (.tuple #[.int .i64 (Fx.cut W P n), .bool (Fx.cut W P n == n)]) ∧ Below w.heap.size w w' := by
  have hp := Fx.two_pow_le (W + P).toNat (by omega)
  have hx := box_two w (.int .i64 W) (.int .i64 P) 52
  have hcase : (n < -2 ^ (W + P).toNat ∧ Fx.cut W P n = -2 ^ (W + P).toNat) ∨ (2 ^ (W + P).toNat - 1 < n ∧ Fx.cut W P n = 2 ^ (W + P).toNat - 1) ∨ ((-2 ^ (W + P).toNat ≤ n ∧ n ≤ 2 ^ (W + P).toNat - 1) ∧ Fx.cut W P n = n) := by
    by_cases h1 : n < -2 ^ (W + P).toNat
    · exact .inl ⟨h1, Fx.cut_low h1⟩
    · by_cases h2 : 2 ^ (W + P).toNat - 1 < n
      · exact .inr (.inl ⟨h2, Fx.cut_high h2 hp.1⟩)
      · exact .inr (.inr ⟨⟨by omega, by omega⟩, Fx.cut_in ⟨by omega, by omega⟩⟩)
  have hq : -2 ^ (W + P).toNat ≤ (2 : Int) ^ (W + P).toNat - 1 := by omega
  rcases hcase with ⟨h1, hc⟩ | ⟨h1, hc⟩ | ⟨h1, hc⟩
  all_goals
    have HC := Lib.hid hc
    clear hc
    go_enter Try.func72, Try.ntmps72
    go_wp2_with (go_at_call 77; refine (formatValid_yes _ _ _ ?_).mono ?_; omega; rintro e w1 ⟨rfl, hb⟩; (have hx := keep_two (w := w) hb hx); clear hb)
    go_region_held3 (fun w' => Below w.heap.size w w' ∧ w.heap.size < w'.heap.size ∧ w'.cell? ⟨w.heap.size, 0, none⟩ = some (.int .i64 W) ∧ w'.cell? ⟨w.heap.size, 1, none⟩ = some (.int .i64 P)) (first | assumption | exact keep_drew hx) (first | (go_at_call 78; refine (least_any _ _ _ (by omega)).mono ?_; rintro e w1 ⟨rfl, hb⟩; (have hx := keep_two (w := w) hb (by assumption)); clear hb) | (go_at_call 71; refine (greatest_any _ _ _ (by omega)).mono ?_; rintro e w1 ⟨rfl, hb⟩; (have hx := keep_two (w := w) hb (by assumption)); clear hb))
    go_wp2
    all_goals
      go_ret2
      first
        | exact ⟨ret_ib HC.out.symm (by rw [HC.out]; try simp), And.left (b := _ ∧ _ ∧ _) (by assumption)⟩
        | (exfalso; omega)

set_option maxHeartbeats 400000 in
theorem cutStored_no (W P n : Int) (w : World) (h : ¬((1 ≤ W ∧ W ≤ 12) ∧ 0 ≤ P ∧ P ≤ 16)) :
    Calls Try.prog 72 #[.agg #[.int .i64 W, .int .i64 P], .int .i64 n] w fun e w' => e = .returned (.tuple #[.int .i64 0, .bool false]) ∧ Below w.heap.size w w' := by
  have hx := box_two w (.int .i64 W) (.int .i64 P) 52
  have H := Lib.hid h
  clear h
  go_enter Try.func72, Try.ntmps72
  go_wp2_with (go_at_call 77; refine (formatValid_no _ _ _ ?_).mono ?_; exact H.out; rintro e w1 ⟨rfl, hb⟩; (have hx := keep_two (w := w) hb hx); clear hb)
  go_ret2
  exact ⟨rfl, hx.1⟩

set_option maxHeartbeats 400000 in
theorem s_formatValid_yes (W P : Int) (w : World) (h : (1 ≤ W ∧ W ≤ 12) ∧ 0 ≤ P ∧ P ≤ 16) :
    Calls Try.prog 75 #[.agg #[.int .i64 W, .int .i64 P]] w fun e w' => e = .returned (.bool true) ∧ Below w.heap.size w w' := by
  go_enter Try.func75, Try.ntmps75
  go_wp2_with (first | (go_at_call 60; refine (l1In_yes _ _ _ _ ?_).mono ?_; (omega); rintro e w' ⟨rfl, rfl⟩) | (go_at_call 60; refine (l1In_no _ _ _ _ ?_).mono ?_; (omega); rintro e w' ⟨rfl, rfl⟩))
  go_ret
  exact ⟨rfl, by go_grown⟩

set_option maxHeartbeats 400000 in
theorem s_formatValid_no (W P : Int) (w : World) (h : ¬((1 ≤ W ∧ W ≤ 12) ∧ 0 ≤ P ∧ P ≤ 16)) :
    Calls Try.prog 75 #[.agg #[.int .i64 W, .int .i64 P]] w fun e w' => e = .returned (.bool false) ∧ Below w.heap.size w w' := by
  by_cases h1 : 1 ≤ W ∧ W ≤ 12
  · have h2 : P < 0 ∨ 16 < P := by omega
    clear h
    go_enter Try.func75, Try.ntmps75
    go_wp2_with (first | (go_at_call 60; refine (l1In_yes _ _ _ _ ?_).mono ?_; (omega); rintro e w' ⟨rfl, rfl⟩) | (go_at_call 60; refine (l1In_no _ _ _ _ ?_).mono ?_; (omega); rintro e w' ⟨rfl, rfl⟩))
    go_ret
    exact ⟨rfl, by go_grown⟩
  · clear h
    go_enter Try.func75, Try.ntmps75
    go_wp2_with (first | (go_at_call 60; refine (l1In_yes _ _ _ _ ?_).mono ?_; (omega); rintro e w' ⟨rfl, rfl⟩) | (go_at_call 60; refine (l1In_no _ _ _ _ ?_).mono ?_; (omega); rintro e w' ⟨rfl, rfl⟩))
    go_ret
    exact ⟨rfl, by go_grown⟩

set_option maxHeartbeats 400000 in
theorem l4Most_any (W P : Int) (w : World) (h : (1 ≤ W ∧ W ≤ 12) ∧ 0 ≤ P ∧ P ≤ 16) :
    Calls Try.prog 67 #[.agg #[.int .i64 W, .int .i64 P]] w fun e w' => e = .returned (.int .i64 (2 ^ (W + P).toNat - 1)) ∧ Below w.heap.size w w' := by
  have hp := Fx.two_pow_le (W + P).toNat (by omega)
  go_enter Try.func67, Try.ntmps67
  go_wp2
  go_ret
  exact ⟨rfl, by go_grown⟩

set_option maxHeartbeats 1000000 in
theorem l4Cut_any (W P n : Int) (w : World) (h : (1 ≤ W ∧ W ≤ 12) ∧ 0 ≤ P ∧ P ≤ 16) :
    Calls Try.prog 68 #[.agg #[.int .i64 W, .int .i64 P], .int .i64 n] w fun e w' => e = .returned (.tuple #[.int .i64 (Fx.cut W P n), .bool (Fx.cut W P n == n)]) ∧ Below w.heap.size w w' := by
  have hp := Fx.two_pow_le (W + P).toNat (by omega)
  have hx := box_two w (.int .i64 W) (.int .i64 P) 52
  have hw1 : IntKind.i64.wrap (-(2 ^ (W + P).toNat - 1)) = -(2 ^ (W + P).toNat - 1) := IntWalk.i64_in _ (by omega)
  have hw2 : IntKind.i64.wrap (-(2 ^ (W + P).toNat - 1) - 1) = -(2 ^ (W + P).toNat - 1) - 1 := IntWalk.i64_in _ (by omega)
  have hcase : ((n < 2 ^ (W + P).toNat - 1 ∧ n ≤ -(2 ^ (W + P).toNat - 1) - 1) ∧ Fx.cut W P n = -(2 ^ (W + P).toNat - 1) - 1) ∨ ((2 ^ (W + P).toNat - 1 ≤ n ∧ -(2 ^ (W + P).toNat - 1) - 1 < (2 : Int) ^ (W + P).toNat - 1) ∧ Fx.cut W P n = 2 ^ (W + P).toNat - 1) ∨ ((n < 2 ^ (W + P).toNat - 1 ∧ -(2 ^ (W + P).toNat - 1) - 1 < n) ∧ Fx.cut W P n = n) := by
    by_cases h1 : n ≤ -2 ^ (W + P).toNat
    · refine .inl ⟨⟨by omega, by omega⟩, ?_⟩
      by_cases h2 : n < -2 ^ (W + P).toNat
      · rw [Fx.cut_low h2]; omega
      · rw [Fx.cut_in (by omega)]; omega
    · by_cases h2 : 2 ^ (W + P).toNat - 1 ≤ n
      · refine .inr (.inl ⟨⟨h2, by omega⟩, ?_⟩)
        by_cases h3 : 2 ^ (W + P).toNat - 1 < n
        · exact Fx.cut_high h3 hp.1
        · rw [Fx.cut_in (by omega)]; omega
      · exact .inr (.inr ⟨⟨by omega, by omega⟩, Fx.cut_in ⟨by omega, by omega⟩⟩)
  rcases hcase with ⟨⟨h1, h2⟩, hc⟩ | ⟨⟨h1, h2⟩, hc⟩ | ⟨⟨h1, h2⟩, hc⟩
  all_goals
    have HC := Lib.hid hc
    clear hc
    go_enter Try.func68, Try.ntmps68
    go_wp2
    go_region_held3 (fun w' => Below w.heap.size w w' ∧ w.heap.size < w'.heap.size ∧ w'.cell? ⟨w.heap.size, 0, none⟩ = some (.int .i64 W) ∧ w'.cell? ⟨w.heap.size, 1, none⟩ = some (.int .i64 P)) (first | assumption | exact keep_drew hx) (first | (go_at_call 67; refine (l4Most_any _ _ _ (by omega)).mono ?_; rintro e w1 ⟨rfl, hb⟩; (have hx := keep_two (w := w) hb (by assumption)); clear hb))
    go_wp2
    all_goals
      go_ret2
      exact ⟨ret_ib HC.out.symm (by rw [HC.out]; try simp), And.left (b := _ ∧ _ ∧ _) (by assumption)⟩

set_option maxHeartbeats 1000000 in
theorem s_storedFits_yes (W P n : Int) (w : World) (h : ((1 ≤ W ∧ W ≤ 12) ∧ 0 ≤ P ∧ P ≤ 16) ∧ -2 ^ (W + P).toNat ≤ n ∧ n ≤ 2 ^ (W + P).toNat - 1) :
    Calls Try.prog 49 #[.agg #[.int .i64 W, .int .i64 P], .int .i64 n] w fun e w' => e = .returned (.bool true) ∧ Below w.heap.size w w' := by
  have hp := Fx.two_pow_le (W + P).toNat (by omega)
  have hw1 : IntKind.i64.wrap (-(2 ^ (W + P).toNat - 1)) = -(2 ^ (W + P).toNat - 1) := IntWalk.i64_in _ (by omega)
  have hw2 : IntKind.i64.wrap (-(2 ^ (W + P).toNat - 1) - 1) = -(2 ^ (W + P).toNat - 1) - 1 := IntWalk.i64_in _ (by omega)
  have hx := box_two w (.int .i64 W) (.int .i64 P) 52
  go_enter Try.func49, Try.ntmps49
  go_wp2
  go_region_held3 (fun w' => Below w.heap.size w w' ∧ w.heap.size < w'.heap.size ∧ w'.cell? ⟨w.heap.size, 0, none⟩ = some (.int .i64 W) ∧ w'.cell? ⟨w.heap.size, 1, none⟩ = some (.int .i64 P)) (first | assumption | exact keep_drew hx) (first | (go_at_call 75; refine (s_formatValid_yes _ _ _ (by omega)).mono ?_; rintro e w1 ⟨rfl, hb⟩; (have hx := keep_two (w := w) hb (by assumption)); clear hb) | (go_at_call 67; refine (l4Most_any _ _ _ (by omega)).mono ?_; rintro e w1 ⟨rfl, hb⟩; (have hx := keep_two (w := w) hb (by assumption)); clear hb) | (go_at_call 60; refine (l1In_yes _ _ _ _ (by omega)).mono ?_; rintro e w' ⟨rfl, rfl⟩))
  go_wp2
  go_ret
  exact ⟨rfl, And.left (b := _ ∧ _ ∧ _) (by assumption)⟩

set_option maxHeartbeats 1000000 in
theorem s_storedFits_no (W P n : Int) (w : World) (h : ¬(((1 ≤ W ∧ W ≤ 12) ∧ 0 ≤ P ∧ P ≤ 16) ∧ -2 ^ (W + P).toNat ≤ n ∧ n ≤ 2 ^ (W + P).toNat - 1)) :
    Calls Try.prog 49 #[.agg #[.int .i64 W, .int .i64 P], .int .i64 n] w fun e w' => e = .returned (.bool false) ∧ Below w.heap.size w w' := by
  have hx := box_two w (.int .i64 W) (.int .i64 P) 52
  by_cases hv : (1 ≤ W ∧ W ≤ 12) ∧ 0 ≤ P ∧ P ≤ 16
  · have hp := Fx.two_pow_le (W + P).toNat (by omega)
    have hw1 : IntKind.i64.wrap (-(2 ^ (W + P).toNat - 1)) = -(2 ^ (W + P).toNat - 1) := IntWalk.i64_in _ (by omega)
    have hw2 : IntKind.i64.wrap (-(2 ^ (W + P).toNat - 1) - 1) = -(2 ^ (W + P).toNat - 1) - 1 := IntWalk.i64_in _ (by omega)
    have h1 : n < -2 ^ (W + P).toNat ∨ 2 ^ (W + P).toNat - 1 < n := by omega
    clear h
    go_enter Try.func49, Try.ntmps49
    go_wp2
    go_region_held3 (fun w' => Below w.heap.size w w' ∧ w.heap.size < w'.heap.size ∧ w'.cell? ⟨w.heap.size, 0, none⟩ = some (.int .i64 W) ∧ w'.cell? ⟨w.heap.size, 1, none⟩ = some (.int .i64 P)) (first | assumption | exact keep_drew hx) (first | (go_at_call 75; refine (s_formatValid_yes _ _ _ (by omega)).mono ?_; rintro e w1 ⟨rfl, hb⟩; (have hx := keep_two (w := w) hb (by assumption)); clear hb) | (go_at_call 67; refine (l4Most_any _ _ _ (by omega)).mono ?_; rintro e w1 ⟨rfl, hb⟩; (have hx := keep_two (w := w) hb (by assumption)); clear hb) | (go_at_call 60; refine (l1In_no _ _ _ _ (by omega)).mono ?_; rintro e w' ⟨rfl, rfl⟩))
    go_wp2
    go_ret
    exact ⟨rfl, And.left (b := _ ∧ _ ∧ _) (by assumption)⟩
  · have H := Lib.hid hv
    clear h hv
    go_enter Try.func49, Try.ntmps49
    go_wp2
    have hx : Hold w [(w.heap.size, 0, .int .i64 W), (w.heap.size, 1, .int .i64 P)] (w.alloc (.cells #[.int .i64 W, .int .i64 P] 52)) := ⟨hx.1, by simp [hx.2]⟩
    (have hn : Nonempty (Held w [(w.heap.size, 0, .int .i64 W), (w.heap.size, 1, .int .i64 P)]) := ⟨⟨_, hx⟩⟩; have hl0 : ∀ x : Held w [(w.heap.size, 0, .int .i64 W), (w.heap.size, 1, .int .i64 P)], x.it.cell? ⟨w.heap.size, 0, none⟩ = some (.int .i64 W) := fun x => x.at0; have hl1 : ∀ x : Held w [(w.heap.size, 0, .int .i64 W), (w.heap.size, 1, .int .i64 P)], x.it.cell? ⟨w.heap.size, 1, none⟩ = some (.int .i64 P) := fun x => x.at1; refine wp_region_hold [(w.heap.size, 0, .int .i64 W), (w.heap.size, 1, .int .i64 P)] hx (by kernel_rfl) (by kernel_rfl) ?_; (repeat (go_big_quiet_step (((go_at_call 75; first | exact Calls.held (s_formatValid_no _ _ _ H.out) | exact Calls.held_same (s_formatValid_no _ _ _ H.out)))))); refine wpQuiet_nil ?_; clear hx; intro _ hx; clear hn hl0 hl1)
    go_wp2
    go_ret
    exact ⟨rfl, hx.1⟩

