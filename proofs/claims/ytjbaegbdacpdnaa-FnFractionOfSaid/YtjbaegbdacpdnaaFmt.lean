/-
  The walks of the functions on formats and stored numbers.
-/
import Derived.Test.YtjbaegbdacpdnaaInt
import Derived.Test.YtjbaegbdacpdnaaMathB
import Derived.Deep.RegionWith
import Derived.Deep.RegionHeld3
import Derived.Test.YtjbaegbdacpdnaaClass
namespace Go.Proofs.Ytjbaegbdacpdnaa
open Go.RowKit

set_option maxHeartbeats 400000 in
theorem formatValid_yes (W P : Int) (w : World) (h : (1 ≤ W ∧ W ≤ 12) ∧ 0 ≤ P ∧ P ≤ 16) :
    Calls Try.prog 73 #[.agg #[.int .i64 W, .int .i64 P]] w fun e w' => e = .returned (.bool true) ∧ Below w.heap.size w w' := by
  go_enter Try.func73, Try.ntmps73
  go_wp2
  go_ret
  exact ⟨rfl, by go_grown⟩

set_option maxHeartbeats 400000 in
theorem formatValid_no (W P : Int) (w : World) (h : ¬((1 ≤ W ∧ W ≤ 12) ∧ 0 ≤ P ∧ P ≤ 16)) :
    Calls Try.prog 73 #[.agg #[.int .i64 W, .int .i64 P]] w fun e w' => e = .returned (.bool false) ∧ Below w.heap.size w w' := by
  go_enter Try.func73, Try.ntmps73
  go_wp2
  all_goals go_ret
  all_goals exact ⟨ret_b (by simp; try omega), by go_grown⟩

set_option maxHeartbeats 400000 in
theorem least_any (W P : Int) (w : World) (h : (1 ≤ W ∧ W ≤ 12) ∧ 0 ≤ P ∧ P ≤ 16) :
    Calls Try.prog 85 #[.agg #[.int .i64 W, .int .i64 P]] w fun e w' => e = .returned (.int .i64 (-2 ^ (W + P).toNat)) ∧ Below w.heap.size w w' := by
  have hp := Fx.two_pow_le (W + P).toNat (by omega)
  go_enter Try.func85, Try.ntmps85
  go_wp2
  go_ret
  exact ⟨rfl, by go_grown⟩

set_option maxHeartbeats 400000 in
theorem greatest_any (W P : Int) (w : World) (h : (1 ≤ W ∧ W ≤ 12) ∧ 0 ≤ P ∧ P ≤ 16) :
    Calls Try.prog 86 #[.agg #[.int .i64 W, .int .i64 P]] w fun e w' => e = .returned (.int .i64 (2 ^ (W + P).toNat - 1)) ∧ Below w.heap.size w w' := by
  have hp := Fx.two_pow_le (W + P).toNat (by omega)
  go_enter Try.func86, Try.ntmps86
  go_wp2
  go_ret
  exact ⟨rfl, by go_grown⟩

set_option maxHeartbeats 400000 in
theorem storedFits_yes (W P n : Int) (w : World) (h : ((1 ≤ W ∧ W ≤ 12) ∧ 0 ≤ P ∧ P ≤ 16) ∧ -2 ^ (W + P).toNat ≤ n ∧ n ≤ 2 ^ (W + P).toNat - 1) :
    Calls Try.prog 50 #[.agg #[.int .i64 W, .int .i64 P], .int .i64 n] w fun e w' => e = .returned (.bool true) ∧ Below w.heap.size w w' := by
  have hx := box_two w (.int .i64 W) (.int .i64 P) 32
  go_enter Try.func50, Try.ntmps50
  go_wp2_with (first | (go_at_call 73; refine (formatValid_yes _ _ _ ?_).mono ?_; omega; rintro e w1 ⟨rfl, hb⟩; (have hx := keep_two (w := w) hb hx); clear hb) | (go_at_call 85; refine (least_any _ _ _ ?_).mono ?_; omega; rintro e w1 ⟨rfl, hb⟩; (have hx := keep_two (w := w) hb hx); clear hb) | (go_at_call 86; refine (greatest_any _ _ _ ?_).mono ?_; omega; rintro e w1 ⟨rfl, hb⟩; (have hx := keep_two (w := w) hb hx); clear hb))
  go_ret
  exact ⟨rfl, hx.1⟩

set_option maxHeartbeats 400000 in
theorem storedFits_no (W P n : Int) (w : World) (h : ¬(((1 ≤ W ∧ W ≤ 12) ∧ 0 ≤ P ∧ P ≤ 16) ∧ -2 ^ (W + P).toNat ≤ n ∧ n ≤ 2 ^ (W + P).toNat - 1)) :
    Calls Try.prog 50 #[.agg #[.int .i64 W, .int .i64 P], .int .i64 n] w fun e w' => e = .returned (.bool false) ∧ Below w.heap.size w w' := by
  have hx := box_two w (.int .i64 W) (.int .i64 P) 32
  by_cases hv : (1 ≤ W ∧ W ≤ 12) ∧ 0 ≤ P ∧ P ≤ 16
  · have H := Lib.hid h
    by_cases h1 : -2 ^ (W + P).toNat ≤ n
    · have h2 : 2 ^ (W + P).toNat - 1 < n := by omega
      clear h
      go_enter Try.func50, Try.ntmps50
      go_wp2_with (first | (go_at_call 73; refine (formatValid_yes _ _ _ ?_).mono ?_; omega; rintro e w1 ⟨rfl, hb⟩; (have hx := keep_two (w := w) hb hx); clear hb) | (go_at_call 85; refine (least_any _ _ _ ?_).mono ?_; omega; rintro e w1 ⟨rfl, hb⟩; (have hx := keep_two (w := w) hb hx); clear hb) | (go_at_call 86; refine (greatest_any _ _ _ ?_).mono ?_; omega; rintro e w1 ⟨rfl, hb⟩; (have hx := keep_two (w := w) hb hx); clear hb))
      go_ret
      exact ⟨ret_b (by simp; try omega), hx.1⟩
    · have h2 : n < -2 ^ (W + P).toNat := by omega
      clear h h1
      go_enter Try.func50, Try.ntmps50
      go_wp2_with (first | (go_at_call 73; refine (formatValid_yes _ _ _ ?_).mono ?_; omega; rintro e w1 ⟨rfl, hb⟩; (have hx := keep_two (w := w) hb hx); clear hb) | (go_at_call 85; refine (least_any _ _ _ ?_).mono ?_; omega; rintro e w1 ⟨rfl, hb⟩; (have hx := keep_two (w := w) hb hx); clear hb) | (go_at_call 86; refine (greatest_any _ _ _ ?_).mono ?_; omega; rintro e w1 ⟨rfl, hb⟩; (have hx := keep_two (w := w) hb hx); clear hb))
      go_ret
      exact ⟨ret_b (by simp; try omega), hx.1⟩
  · clear h
    go_enter Try.func50, Try.ntmps50
    go_wp2_with (go_at_call 73; refine (formatValid_no _ _ _ ?_).mono ?_; omega; rintro e w1 ⟨rfl, hb⟩; (have hx := keep_two (w := w) hb hx); clear hb)
    go_ret
    exact ⟨rfl, hx.1⟩

set_option maxHeartbeats 1000000 in
theorem cutStored_yes (W P n : Int) (w : World) (h : (1 ≤ W ∧ W ≤ 12) ∧ 0 ≤ P ∧ P ≤ 16) :
    Calls Try.prog 75 #[.agg #[.int .i64 W, .int .i64 P], .int .i64 n] w fun e w' => e = .returned (.tuple #[.int .i64 (Fx.cut W P n), .bool (Fx.cut W P n == n)]) ∧ Below w.heap.size w w' := by
  have hp := Fx.two_pow_le (W + P).toNat (by omega)
  have hx := box_two w (.int .i64 W) (.int .i64 P) 32
  have hcase : (n < -2 ^ (W + P).toNat ∧ Fx.cut W P n = -2 ^ (W + P).toNat) ∨ (2 ^ (W + P).toNat - 1 < n ∧ Fx.cut W P n = 2 ^ (W + P).toNat - 1) ∨ ((-2 ^ (W + P).toNat ≤ n ∧ n ≤ 2 ^ (W + P).toNat - 1) ∧ Fx.cut W P n = n) := by
    by_cases h1 : n < -2 ^ (W + P).toNat
    · exact .inl ⟨h1, Fx.cut_low h1⟩
    · by_cases h2 : 2 ^ (W + P).toNat - 1 < n
      · exact .inr (.inl ⟨h2, Fx.cut_high h2 hp.1⟩)
      · exact .inr (.inr ⟨⟨by omega, by omega⟩, Fx.cut_in ⟨by omega, by omega⟩⟩)
  have hq : -2 ^ (W + P).toNat ≤ (2 : Int) ^ (W + P).toNat - 1 := by omega
  rcases hcase with ⟨h1, hc⟩ | ⟨h1, hc⟩ | ⟨h1, hc⟩
  all_goals
    have HC := Lib.hid hc
    clear hc
    go_enter Try.func75, Try.ntmps75
    go_wp2_with (go_at_call 73; refine (formatValid_yes _ _ _ ?_).mono ?_; omega; rintro e w1 ⟨rfl, hb⟩; (have hx := keep_two (w := w) hb hx); clear hb)
    go_region_held3 (fun w' => Below w.heap.size w w' ∧ w.heap.size < w'.heap.size ∧ w'.cell? ⟨w.heap.size, 0, none⟩ = some (.int .i64 W) ∧ w'.cell? ⟨w.heap.size, 1, none⟩ = some (.int .i64 P)) (first | assumption | exact keep_drew hx) (first | (go_at_call 85; refine (least_any _ _ _ (by omega)).mono ?_; rintro e w1 ⟨rfl, hb⟩; (have hx := keep_two (w := w) hb (by assumption)); clear hb) | (go_at_call 86; refine (greatest_any _ _ _ (by omega)).mono ?_; rintro e w1 ⟨rfl, hb⟩; (have hx := keep_two (w := w) hb (by assumption)); clear hb))
    go_wp2
    all_goals
      go_ret2
      first
        | exact ⟨ret_ib HC.out.symm (by rw [HC.out]; try simp), And.left (b := _ ∧ _ ∧ _) (by assumption)⟩
        | (exfalso; omega)

set_option maxHeartbeats 400000 in
theorem cutStored_no (W P n : Int) (w : World) (h : ¬((1 ≤ W ∧ W ≤ 12) ∧ 0 ≤ P ∧ P ≤ 16)) :
    Calls Try.prog 75 #[.agg #[.int .i64 W, .int .i64 P], .int .i64 n] w fun e w' => e = .returned (.tuple #[.int .i64 0, .bool false]) ∧ Below w.heap.size w w' := by
  have hx := box_two w (.int .i64 W) (.int .i64 P) 32
  have H := Lib.hid h
  clear h
  go_enter Try.func75, Try.ntmps75
  go_wp2_with (go_at_call 73; refine (formatValid_no _ _ _ ?_).mono ?_; exact H.out; rintro e w1 ⟨rfl, hb⟩; (have hx := keep_two (w := w) hb hx); clear hb)
  go_ret2
  exact ⟨rfl, hx.1⟩

set_option maxHeartbeats 400000 in
theorem s_formatValid_yes (W P : Int) (w : World) (h : (1 ≤ W ∧ W ≤ 12) ∧ 0 ≤ P ∧ P ≤ 16) :
    Calls Try.prog 49 #[.agg #[.int .i64 W, .int .i64 P]] w fun e w' => e = .returned (.bool true) ∧ Below w.heap.size w w' := by
  go_enter Try.func49, Try.ntmps49
  go_wp2_with (first | (go_at_call 68; refine (l1In_yes _ _ _ _ ?_).mono ?_; (omega); rintro e w' ⟨rfl, rfl⟩) | (go_at_call 68; refine (l1In_no _ _ _ _ ?_).mono ?_; (omega); rintro e w' ⟨rfl, rfl⟩))
  go_ret
  exact ⟨rfl, by go_grown⟩

set_option maxHeartbeats 400000 in
theorem s_formatValid_no (W P : Int) (w : World) (h : ¬((1 ≤ W ∧ W ≤ 12) ∧ 0 ≤ P ∧ P ≤ 16)) :
    Calls Try.prog 49 #[.agg #[.int .i64 W, .int .i64 P]] w fun e w' => e = .returned (.bool false) ∧ Below w.heap.size w w' := by
  by_cases h1 : 1 ≤ W ∧ W ≤ 12
  · have h2 : P < 0 ∨ 16 < P := by omega
    clear h
    go_enter Try.func49, Try.ntmps49
    go_wp2_with (first | (go_at_call 68; refine (l1In_yes _ _ _ _ ?_).mono ?_; (omega); rintro e w' ⟨rfl, rfl⟩) | (go_at_call 68; refine (l1In_no _ _ _ _ ?_).mono ?_; (omega); rintro e w' ⟨rfl, rfl⟩))
    go_ret
    exact ⟨rfl, by go_grown⟩
  · clear h
    go_enter Try.func49, Try.ntmps49
    go_wp2_with (first | (go_at_call 68; refine (l1In_yes _ _ _ _ ?_).mono ?_; (omega); rintro e w' ⟨rfl, rfl⟩) | (go_at_call 68; refine (l1In_no _ _ _ _ ?_).mono ?_; (omega); rintro e w' ⟨rfl, rfl⟩))
    go_ret
    exact ⟨rfl, by go_grown⟩

set_option maxHeartbeats 400000 in
theorem l4Most_any (W P : Int) (w : World) (h : (1 ≤ W ∧ W ≤ 12) ∧ 0 ≤ P ∧ P ≤ 16) :
    Calls Try.prog 88 #[.agg #[.int .i64 W, .int .i64 P]] w fun e w' => e = .returned (.int .i64 (2 ^ (W + P).toNat - 1)) ∧ Below w.heap.size w w' := by
  have hp := Fx.two_pow_le (W + P).toNat (by omega)
  go_enter Try.func88, Try.ntmps88
  go_wp2
  go_ret
  exact ⟨rfl, by go_grown⟩

set_option maxHeartbeats 1000000 in
theorem l4Cut_any (W P n : Int) (w : World) (h : (1 ≤ W ∧ W ≤ 12) ∧ 0 ≤ P ∧ P ≤ 16) :
    Calls Try.prog 71 #[.agg #[.int .i64 W, .int .i64 P], .int .i64 n] w fun e w' => e = .returned (.tuple #[.int .i64 (Fx.cut W P n), .bool (Fx.cut W P n == n)]) ∧ Below w.heap.size w w' := by
  have hp := Fx.two_pow_le (W + P).toNat (by omega)
  have hx := box_two w (.int .i64 W) (.int .i64 P) 32
  have hw1 : IntKind.i64.wrap (-(2 ^ (W + P).toNat - 1)) = -(2 ^ (W + P).toNat - 1) := IntWalk.i64_in _ (by omega)
  have hw2 : IntKind.i64.wrap (-(2 ^ (W + P).toNat - 1) - 1) = -(2 ^ (W + P).toNat - 1) - 1 := IntWalk.i64_in _ (by omega)
  have hcase : ((n < 2 ^ (W + P).toNat - 1 ∧ n ≤ -(2 ^ (W + P).toNat - 1) - 1) ∧ Fx.cut W P n = -(2 ^ (W + P).toNat - 1) - 1) ∨ ((2 ^ (W + P).toNat - 1 ≤ n ∧ -(2 ^ (W + P).toNat - 1) - 1 < (2 : Int) ^ (W + P).toNat - 1) ∧ Fx.cut W P n = 2 ^ (W + P).toNat - 1) ∨ ((n < 2 ^ (W + P).toNat - 1 ∧ -(2 ^ (W + P).toNat - 1) - 1 < n) ∧ Fx.cut W P n = n) := by
    by_cases h1 : n ≤ -2 ^ (W + P).toNat
    · refine .inl ⟨⟨by omega, by omega⟩, ?_⟩
      by_cases h2 : n < -2 ^ (W + P).toNat
      · rw [Fx.cut_low h2]; omega
      · rw [Fx.cut_in (by omega)]; omega
    · by_cases h2 : 2 ^ (W + P).toNat - 1 ≤ n
      · refine .inr (.inl ⟨⟨h2, by omega⟩, ?_⟩)
        by_cases h3 : 2 ^ (W + P).toNat - 1 < n
        · exact Fx.cut_high h3 hp.1
        · rw [Fx.cut_in (by omega)]; omega
      · exact .inr (.inr ⟨⟨by omega, by omega⟩, Fx.cut_in ⟨by omega, by omega⟩⟩)
  rcases hcase with ⟨⟨h1, h2⟩, hc⟩ | ⟨⟨h1, h2⟩, hc⟩ | ⟨⟨h1, h2⟩, hc⟩
  all_goals
    have HC := Lib.hid hc
    clear hc
    go_enter Try.func71, Try.ntmps71
    go_wp2
    go_region_held3 (fun w' => Below w.heap.size w w' ∧ w.heap.size < w'.heap.size ∧ w'.cell? ⟨w.heap.size, 0, none⟩ = some (.int .i64 W) ∧ w'.cell? ⟨w.heap.size, 1, none⟩ = some (.int .i64 P)) (first | assumption | exact keep_drew hx) (first | (go_at_call 88; refine (l4Most_any _ _ _ (by omega)).mono ?_; rintro e w1 ⟨rfl, hb⟩; (have hx := keep_two (w := w) hb (by assumption)); clear hb))
    go_wp2
    all_goals
      go_ret2
      exact ⟨ret_ib HC.out.symm (by rw [HC.out]; try simp), And.left (b := _ ∧ _ ∧ _) (by assumption)⟩

set_option maxHeartbeats 1000000 in
theorem s_storedFits_yes (W P n : Int) (w : World) (h : ((1 ≤ W ∧ W ≤ 12) ∧ 0 ≤ P ∧ P ≤ 16) ∧ -2 ^ (W + P).toNat ≤ n ∧ n ≤ 2 ^ (W + P).toNat - 1) :
    Calls Try.prog 57 #[.agg #[.int .i64 W, .int .i64 P], .int .i64 n] w fun e w' => e = .returned (.bool true) ∧ Below w.heap.size w w' := by
  have hp := Fx.two_pow_le (W + P).toNat (by omega)
  have hw1 : IntKind.i64.wrap (-(2 ^ (W + P).toNat - 1)) = -(2 ^ (W + P).toNat - 1) := IntWalk.i64_in _ (by omega)
  have hw2 : IntKind.i64.wrap (-(2 ^ (W + P).toNat - 1) - 1) = -(2 ^ (W + P).toNat - 1) - 1 := IntWalk.i64_in _ (by omega)
  have hx := box_two w (.int .i64 W) (.int .i64 P) 32
  go_enter Try.func57, Try.ntmps57
  go_wp2
  go_region_held3 (fun w' => Below w.heap.size w w' ∧ w.heap.size < w'.heap.size ∧ w'.cell? ⟨w.heap.size, 0, none⟩ = some (.int .i64 W) ∧ w'.cell? ⟨w.heap.size, 1, none⟩ = some (.int .i64 P)) (first | assumption | exact keep_drew hx) (first | (go_at_call 49; refine (s_formatValid_yes _ _ _ (by omega)).mono ?_; rintro e w1 ⟨rfl, hb⟩; (have hx := keep_two (w := w) hb (by assumption)); clear hb) | (go_at_call 88; refine (l4Most_any _ _ _ (by omega)).mono ?_; rintro e w1 ⟨rfl, hb⟩; (have hx := keep_two (w := w) hb (by assumption)); clear hb) | (go_at_call 68; refine (l1In_yes _ _ _ _ (by omega)).mono ?_; rintro e w' ⟨rfl, rfl⟩))
  go_wp2
  go_ret
  exact ⟨rfl, And.left (b := _ ∧ _ ∧ _) (by assumption)⟩

set_option maxHeartbeats 1000000 in
theorem s_storedFits_no (W P n : Int) (w : World) (h : ¬(((1 ≤ W ∧ W ≤ 12) ∧ 0 ≤ P ∧ P ≤ 16) ∧ -2 ^ (W + P).toNat ≤ n ∧ n ≤ 2 ^ (W + P).toNat - 1)) :
    Calls Try.prog 57 #[.agg #[.int .i64 W, .int .i64 P], .int .i64 n] w fun e w' => e = .returned (.bool false) ∧ Below w.heap.size w w' := by
  have hx := box_two w (.int .i64 W) (.int .i64 P) 32
  by_cases hv : (1 ≤ W ∧ W ≤ 12) ∧ 0 ≤ P ∧ P ≤ 16
  · have hp := Fx.two_pow_le (W + P).toNat (by omega)
    have hw1 : IntKind.i64.wrap (-(2 ^ (W + P).toNat - 1)) = -(2 ^ (W + P).toNat - 1) := IntWalk.i64_in _ (by omega)
    have hw2 : IntKind.i64.wrap (-(2 ^ (W + P).toNat - 1) - 1) = -(2 ^ (W + P).toNat - 1) - 1 := IntWalk.i64_in _ (by omega)
    have h1 : n < -2 ^ (W + P).toNat ∨ 2 ^ (W + P).toNat - 1 < n := by omega
    clear h
    go_enter Try.func57, Try.ntmps57
    go_wp2
    go_region_held3 (fun w' => Below w.heap.size w w' ∧ w.heap.size < w'.heap.size ∧ w'.cell? ⟨w.heap.size, 0, none⟩ = some (.int .i64 W) ∧ w'.cell? ⟨w.heap.size, 1, none⟩ = some (.int .i64 P)) (first | assumption | exact keep_drew hx) (first | (go_at_call 49; refine (s_formatValid_yes _ _ _ (by omega)).mono ?_; rintro e w1 ⟨rfl, hb⟩; (have hx := keep_two (w := w) hb (by assumption)); clear hb) | (go_at_call 88; refine (l4Most_any _ _ _ (by omega)).mono ?_; rintro e w1 ⟨rfl, hb⟩; (have hx := keep_two (w := w) hb (by assumption)); clear hb) | (go_at_call 68; refine (l1In_no _ _ _ _ (by omega)).mono ?_; rintro e w' ⟨rfl, rfl⟩))
    go_wp2
    go_ret
    exact ⟨rfl, And.left (b := _ ∧ _ ∧ _) (by assumption)⟩
  · have H := Lib.hid hv
    clear h hv
    go_enter Try.func57, Try.ntmps57
    go_wp2
    have hx : Hold w [(w.heap.size, 0, .int .i64 W), (w.heap.size, 1, .int .i64 P)] (w.alloc (.cells #[.int .i64 W, .int .i64 P] 32)) := ⟨hx.1, by simp [hx.2]⟩
    (have hn : Nonempty (Held w [(w.heap.size, 0, .int .i64 W), (w.heap.size, 1, .int .i64 P)]) := ⟨⟨_, hx⟩⟩; have hl0 : ∀ x : Held w [(w.heap.size, 0, .int .i64 W), (w.heap.size, 1, .int .i64 P)], x.it.cell? ⟨w.heap.size, 0, none⟩ = some (.int .i64 W) := fun x => x.at0; have hl1 : ∀ x : Held w [(w.heap.size, 0, .int .i64 W), (w.heap.size, 1, .int .i64 P)], x.it.cell? ⟨w.heap.size, 1, none⟩ = some (.int .i64 P) := fun x => x.at1; refine wp_region_hold [(w.heap.size, 0, .int .i64 W), (w.heap.size, 1, .int .i64 P)] hx (by kernel_rfl) (by kernel_rfl) ?_; (repeat (go_big_quiet_step (((go_at_call 49; first | exact Calls.held (s_formatValid_no _ _ _ H.out) | exact Calls.held_same (s_formatValid_no _ _ _ H.out)))))); refine wpQuiet_nil ?_; intro _ hx; clear hn hl0 hl1)
    go_wp2
    go_ret
    exact ⟨rfl, hx.1⟩

set_option maxHeartbeats 400000 in
theorem l6Both_yes (W P a b : Int) (w : World) (h : ((1 ≤ W ∧ W ≤ 12) ∧ 0 ≤ P ∧ P ≤ 16) ∧ (-2 ^ (W + P).toNat ≤ a ∧ a ≤ 2 ^ (W + P).toNat - 1) ∧ -2 ^ (W + P).toNat ≤ b ∧ b ≤ 2 ^ (W + P).toNat - 1) :
    Calls Try.prog 76 #[.agg #[.int .i64 W, .int .i64 P], .int .i64 a, .int .i64 b] w fun e w' => e = .returned (.bool true) ∧ Below w.heap.size w w' := by
  have hx := box_two w (.int .i64 W) (.int .i64 P) 32
  go_enter Try.func76, Try.ntmps76
  go_wp2_with (go_at_call 57; refine (s_storedFits_yes _ _ _ _ ?_).mono ?_; omega; rintro e w1 ⟨rfl, hb⟩; (have hx := keep_two (w := w) hb hx); clear hb)
  go_ret
  exact ⟨rfl, hx.1⟩

set_option maxHeartbeats 400000 in
theorem l6Both_no (W P a b : Int) (w : World) (h : ¬(((1 ≤ W ∧ W ≤ 12) ∧ 0 ≤ P ∧ P ≤ 16) ∧ (-2 ^ (W + P).toNat ≤ a ∧ a ≤ 2 ^ (W + P).toNat - 1) ∧ -2 ^ (W + P).toNat ≤ b ∧ b ≤ 2 ^ (W + P).toNat - 1)) :
    Calls Try.prog 76 #[.agg #[.int .i64 W, .int .i64 P], .int .i64 a, .int .i64 b] w fun e w' => e = .returned (.bool false) ∧ Below w.heap.size w w' := by
  have hx := box_two w (.int .i64 W) (.int .i64 P) 32
  by_cases ha : ((1 ≤ W ∧ W ≤ 12) ∧ 0 ≤ P ∧ P ≤ 16) ∧ -2 ^ (W + P).toNat ≤ a ∧ a ≤ 2 ^ (W + P).toNat - 1
  · have H1 := Lib.hid ha
    have H2 := Lib.hid (show ¬(((1 ≤ W ∧ W ≤ 12) ∧ 0 ≤ P ∧ P ≤ 16) ∧ -2 ^ (W + P).toNat ≤ b ∧ b ≤ 2 ^ (W + P).toNat - 1) from fun hb => h ⟨ha.1, ha.2, hb.2⟩)
    clear h ha
    go_enter Try.func76, Try.ntmps76
    go_wp2_with fail
    refine (s_storedFits_yes _ _ _ _ H1.out).mono ?_
    rintro e w1 ⟨rfl, hb⟩
    have hx := keep_two (w := w) hb hx
    clear hb
    go_wp2_with fail
    refine (s_storedFits_no _ _ _ _ H2.out).mono ?_
    rintro e w2 ⟨rfl, hb⟩
    have hx := keep_two (w := w) hb hx
    go_wp2
    go_ret
    exact ⟨rfl, hx.1⟩
  · have H1 := Lib.hid ha
    clear h ha
    go_enter Try.func76, Try.ntmps76
    go_wp2_with (go_at_call 57; refine (s_storedFits_no _ _ _ _ H1.out).mono ?_; rintro e w1 ⟨rfl, hb⟩; (have hx := keep_two (w := w) hb hx); clear hb)
    go_ret
    exact ⟨rfl, hx.1⟩

set_option maxHeartbeats 1000000 in
theorem toFormat_yes (n W P V Q : Int) (w : World) (h : ((1 ≤ W ∧ W ≤ 12) ∧ 0 ≤ P ∧ P ≤ 16) ∧ -2 ^ (W + P).toNat ≤ n ∧ n ≤ 2 ^ (W + P).toNat - 1) (hv : (1 ≤ V ∧ V ≤ 12) ∧ 0 ≤ Q ∧ Q ≤ 16) :
    Calls Try.prog 31 #[.int .i64 n, .agg #[.int .i64 W, .int .i64 P], .agg #[.int .i64 V, .int .i64 Q]] w
      fun e w' => e = .returned (.tuple #[.int .i64 (Fx.cut V Q (Fx.toFmt n P Q)), .bool (Fx.cut V Q (Fx.toFmt n P Q) == Fx.toFmt n P Q)]) ∧ Below w.heap.size w w' := by
  have hx := box_four w (.int .i64 W) (.int .i64 P) (.int .i64 V) (.int .i64 Q) 32 32
  have hp := Fx.pow_28 (k := (W + P).toNat) (by omega)
  have hn : -268435456 ≤ n ∧ n ≤ 268435456 := by omega
  by_cases hc : P ≤ Q
  · have hq := Fx.pow_16 (k := (Q - P).toNat) (by omega)
    have hm := Fx.mul_bounds hn (show 0 ≤ (2 : Int) ^ (Q - P).toNat ∧ (2 : Int) ^ (Q - P).toNat ≤ 65536 by omega)
    have HT := Lib.hid (show Fx.toFmt n P Q = n * 2 ^ (Q - P).toNat from if_pos hc)
    go_enter Try.func31, Try.ntmps31
    go_wp2_with (first | (go_at_call 50; refine (storedFits_yes _ _ _ _ ?_).mono ?_; exact h; rintro e w1 ⟨rfl, hb⟩; (have hx := keep_four (w := w) hb hx); clear hb) | (go_at_call 73; refine (formatValid_yes _ _ _ ?_).mono ?_; exact hv; rintro e w1 ⟨rfl, hb⟩; (have hx := keep_four (w := w) hb hx); clear hb) | (go_at_call 75; refine (cutStored_yes _ _ _ _ ?_).mono ?_; exact hv; rintro e w1 ⟨rfl, hb⟩; (have hx := keep_four (w := w) hb hx); clear hb))
    go_ret2
    exact ⟨by rw [HT.out]; try rfl, hx.1⟩
  · have HT := Lib.hid (show Fx.toFmt n P Q = Fx.roundShift n (P - Q) by rw [Fx.roundShift_in _ _ (by unfold Fx.Work; omega) (by omega) (by omega)]; exact if_neg hc)
    have hw : IntKind.i64.wrap (P - Q) = P - Q := IntWalk.i64_in _ (by omega)
    go_enter Try.func31, Try.ntmps31
    go_wp2_with (first | (go_at_call 50; refine (storedFits_yes _ _ _ _ ?_).mono ?_; exact h; rintro e w1 ⟨rfl, hb⟩; (have hx := keep_four (w := w) hb hx); clear hb) | (go_at_call 73; refine (formatValid_yes _ _ _ ?_).mono ?_; exact hv; rintro e w1 ⟨rfl, hb⟩; (have hx := keep_four (w := w) hb hx); clear hb))
    go_region_held3 (fun w' => Below w.heap.size w w' ∧ (w.heap.size < w'.heap.size ∧ w'.cell? ⟨w.heap.size, 0, none⟩ = some (.int .i64 W) ∧ w'.cell? ⟨w.heap.size, 1, none⟩ = some (.int .i64 P)) ∧ w.heap.size + 1 < w'.heap.size ∧ w'.cell? ⟨w.heap.size + 1, 0, none⟩ = some (.int .i64 V) ∧ w'.cell? ⟨w.heap.size + 1, 1, none⟩ = some (.int .i64 Q)) (first | assumption | exact keep_drew4 hx) (first | (go_at_call 44; refine (roundShift_any _ _ _).mono ?_; rintro e w' ⟨rfl, rfl⟩) | (go_at_call 75; refine (cutStored_yes _ _ _ _ hv).mono ?_; rintro e w1 ⟨rfl, hb⟩; (have hx := keep_four (w := w) hb (by assumption)); clear hb))
    go_wp2
    go_ret2
    exact ⟨by rw [HT.out]; try rfl, And.left (b := _ ∧ _ ∧ _) (by assumption)⟩

end Go.Proofs.Ytjbaegbdacpdnaa
