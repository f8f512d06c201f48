/-
  Rows of numbers that the call made: read, compared, written.
-/
import Derived.Test.YtmjmafgjejphbaaSteps2
import Derived.Test.YtmjmafgjejphbaaLawSpan
import Derived.Deep.RegionWith
namespace Go.Proofs.Ytmjmafgjejphbaa
open Go.RowKit

/-- The slice at a holds the n numbers of f. -/
def RowIs (w : World) (a : Option Addr) (n : Nat) (f : Nat → Int) : Prop := ∀ i, i < n → ∃ g, a = some ⟨g, 0, none⟩ ∧ g < w.heap.size ∧ w.cell? ⟨g, i, none⟩ = some (.int .i64 (f i))
theorem RowIs.below {w w' : World} {a : Option Addr} {n : Nat} {f : Nat → Int} (h : RowIs w a n f) (hb : Below w.heap.size w w') : RowIs w' a n f := by
  intro i hi
  obtain ⟨g, e1, e2, e3⟩ := h i hi
  exact ⟨g, e1, Nat.lt_of_lt_of_le e2 hb.size, (hb.cell (p := ⟨g, i, none⟩) e2).trans e3⟩
theorem RowIs.at {w : World} {a : Option Addr} {n : Nat} {f : Nat → Int} (h : RowIs w a n f) {g : Nat} (hg : a = some ⟨g, 0, none⟩) (i : Nat) (hi : i < n) : w.cell? ⟨g, i, none⟩ = some (.int .i64 (f i)) := by
  obtain ⟨g', e1, e2, e3⟩ := h i hi
  rw [hg] at e1
  cases e1
  exact e3
theorem owns_is {w : World} {base n : Nat} {v : Value} {L : List Value} {f : Nat → Int} (h : w.ownsRow base 3 1 v n L) (hL : ∀ i, i < n → L[i]? = some (.int .i64 (f i))) :
    ∃ a cap, v = .slice a n cap ∧ n ≤ cap ∧ RowIs w a n f := by
  rcases h.2 with ⟨rfl, rfl⟩ | ⟨g, cap, cur, rfl, e2, e3, e4, e5⟩
  · exact ⟨none, 0, rfl, Nat.le_refl _, fun i hi => absurd hi (Nat.not_lt_zero _)⟩
  · refine ⟨_, cap, rfl, e4, fun i hi => ⟨g, rfl, (Array.getElem?_eq_some_iff.1 e3).1, ?_⟩⟩
    rw [h.cellAt i (by omega), hL i hi]

set_option maxHeartbeats 4000000 in
theorem sameInts_yes (a b : Option Addr) (n c d : Nat) (f : Nat → Int) (w : World) (hn : n ≤ 1000) (ha : RowIs w a n f) (hb : RowIs w b n f) :
    Calls Try.prog 69 #[.slice a n c, .slice b n d] w fun e w' => e = .returned (.bool true) ∧ Below w.heap.size w w' := by
  by_cases h0 : n = 0
  · subst h0
    go_enter Try.func69, Try.ntmps69
    go_wp2
    go_loopw [5] (fun i w' => i = .int .i64 0 ∧ Below w.heap.size w w') (fun _ _ => 0)
    case atStart => exact ⟨rfl, Below.refl _ _⟩
    case round =>
      obtain ⟨rfl, hb⟩ := hrel
      go_wp2
      go_ret
      exact ⟨rfl, hb⟩
  · obtain ⟨g, rfl, hg, -⟩ := ha 0 (by omega)
    obtain ⟨g', rfl, hg', -⟩ := hb 0 (by omega)
    go_enter Try.func69, Try.ntmps69
    go_wp2
    go_loopw [5] (fun i w' => ∃ k : Nat, k ≤ n ∧ i = .int .i64 k ∧ Below w.heap.size w w') (fun i _ => (n - intOf i).toNat)
    case atStart => exact ⟨0, by omega, rfl, Below.refl _ _⟩
    case round =>
      obtain ⟨k, hk, rfl, hbw⟩ := hrel
      by_cases h4 : k < n
      · have c1 := (ha.below hbw).at rfl k h4
        have c2 := (hb.below hbw).at rfl k h4
        go_wp2
        go_region_with fail
        all_goals
          go_wp2
          try go_roundw
        all_goals first
          | exact ⟨k + 1, by omega, by go_num, by first | exact hbw | exact hbw.drew⟩
          | (simp [intOf]; omega)
          | exact ⟨⟨k + 1, by omega, by go_num, by first | exact hbw | exact hbw.drew⟩, by simp [intOf]; omega⟩
      · obtain rfl : k = n := by omega
        go_wp2
        go_ret
        exact ⟨rfl, hbw⟩
set_option maxHeartbeats 4000000 in
theorem eqIntS_yes (a b : Option Addr) (n c d : Nat) (f : Nat → Int) (w : World) (hn : n ≤ 1000) (ha : RowIs w a n f) (hb : RowIs w b n f) :
    Calls Try.prog 57 #[.slice a n c, .slice b n d] w fun e w' => e = .returned (.bool true) ∧ Below w.heap.size w w' := by
  by_cases h0 : n = 0
  · subst h0
    go_enter Try.func57, Try.ntmps57
    go_wp2
    go_loopw [5] (fun i w' => i = .int .i64 0 ∧ Below w.heap.size w w') (fun _ _ => 0)
    case atStart => exact ⟨rfl, Below.refl _ _⟩
    case round =>
      obtain ⟨rfl, hb⟩ := hrel
      go_wp2
      go_ret
      exact ⟨rfl, hb⟩
  · obtain ⟨g, rfl, hg, -⟩ := ha 0 (by omega)
    obtain ⟨g', rfl, hg', -⟩ := hb 0 (by omega)
    go_enter Try.func57, Try.ntmps57
    go_wp2
    go_loopw [5] (fun i w' => ∃ k : Nat, k ≤ n ∧ i = .int .i64 k ∧ Below w.heap.size w w') (fun i _ => (n - intOf i).toNat)
    case atStart => exact ⟨0, by omega, rfl, Below.refl _ _⟩
    case round =>
      obtain ⟨k, hk, rfl, hbw⟩ := hrel
      by_cases h4 : k < n
      · have c1 := (ha.below hbw).at rfl k h4
        have c2 := (hb.below hbw).at rfl k h4
        go_wp2
        go_region_with fail
        all_goals
          go_wp2
          try go_roundw
        all_goals first
          | exact ⟨k + 1, by omega, by go_num, by first | exact hbw | exact hbw.drew⟩
          | (simp [intOf]; omega)
          | exact ⟨⟨k + 1, by omega, by go_num, by first | exact hbw | exact hbw.drew⟩, by simp [intOf]; omega⟩
      · obtain rfl : k = n := by omega
        go_wp2
        go_ret
        exact ⟨rfl, hbw⟩

def rowF (n : Nat) (f : Nat → Int) : List Value := (List.range n).map fun i => .int .i64 (f i)
theorem rowF_at (n : Nat) (f : Nat → Int) (i : Nat) (h : i < n) : (rowF n f)[i]? = some (.int .i64 (f i)) := by unfold rowF; simp [h]
theorem rowF_set (n : Nat) (f : Nat → Int) (k : Nat) (x : Int) : (rowF n f).set k (.int .i64 x) = rowF n (fun i => if i = k then x else f i) := by
  apply List.ext_getElem?
  intro i
  unfold rowF
  by_cases hi : i < n
  · by_cases e : i = k
    · subst e
      rw [List.getElem?_set_self (by simpa using hi)]
      simp [hi]
    · rw [List.getElem?_set_ne (by omega)]
      simp [hi, e]
  · rw [List.getElem?_eq_none (by simp; omega), List.getElem?_eq_none (by simp; omega)]
theorem stepL_rowF (n : Nat) : stepL n = rowF n Fx.stepA := rfl

set_option maxHeartbeats 4000000 in
theorem markIntS_own (base : Nat) (a : Option Addr) (n cap : Nat) (c : Int) (f : Nat → Int) (w : World) (hn : n ≤ 1000) (hc : 0 ≤ c ∧ c ≤ 1000) (h : w.ownsRow base 3 1 (.slice a n cap) n (rowF n f)) :
    Calls Try.prog 58 #[.slice a n cap, .int .i64 c] w fun e w' => e = .returned (.int .i64 (c + n)) ∧ RowIs w' a n (fun i => c + i) ∧ Below base w w' := by
  by_cases h0 : n = 0
  · subst h0
    go_enter Try.func58, Try.ntmps58
    go_wp2
    go_loopw [5, 1] (fun i x w' => i = .int .i64 0 ∧ x = .int .i64 c ∧ Below base w w') (fun _ _ _ => 0)
    case atStart => exact ⟨rfl, rfl, Below.refl _ _⟩
    case round =>
      obtain ⟨rfl, rfl, hb⟩ := hrel
      go_wp2
      go_ret
      exact ⟨ret_i (by simp), fun i hi => absurd hi (Nat.not_lt_zero _), hb⟩
  · obtain ⟨g, cap', e⟩ := Joins.ownsRow_form h (by omega)
    obtain ⟨rfl, rfl⟩ : a = some ⟨g, 0, none⟩ ∧ cap = cap' := by
      injection e with e1 e2 e3
      exact ⟨e1, e3⟩
    clear e
    have hB : base ≤ g := (h.lt g rfl).1
    go_enter Try.func58, Try.ntmps58
    go_wp2
    go_loopw [5, 1] (fun i x w' => ∃ (k : Nat) (f : Nat → Int), k ≤ n ∧ i = .int .i64 k ∧ x = .int .i64 (c + k) ∧ (∀ j, j < k → f j = c + j) ∧ w'.ownsRow base 3 1 (.slice (some ⟨g, 0, none⟩) n cap) n (rowF n f) ∧ Below base w w') (fun i _ _ => (n - intOf i).toNat)
    case atStart => exact ⟨0, f, by omega, rfl, by go_num, fun j hj => absurd hj (Nat.not_lt_zero _), h, Below.refl _ _⟩
    case round =>
      clear h f
      obtain ⟨k, f, hk, rfl, rfl, hf, h, hbw⟩ := hrel
      by_cases h4 : k < n
      · have c1 : wr.cell? ⟨g, k, none⟩ = some (.int .i64 (f k)) := by rw [h.cellAt k (by omega), rowF_at n f k h4]
        have c2 := h.frozenAt k
        go_wp2
        go_roundw
        case rel =>
          have h9 := (h.stored k (.int .i64 (c + k))).1
          rw [rowF_set] at h9
          exact ⟨k + 1, _, by omega, by go_num, by go_num, fun j hj => by
            by_cases e : j = k
            · rw [if_pos e, e]
            · rw [if_neg e]; exact hf j (by omega), h9, hbw.setCell hB _⟩
        case measure => simp [intOf]; omega
      · obtain rfl : k = n := by omega
        go_wp2
        go_ret
        refine ⟨rfl, fun i hi => ⟨g, rfl, (h.lt g rfl).2, ?_⟩, hbw⟩
        rw [h.cellAt i (by omega), rowF_at k f i hi, hf i hi]

set_option maxHeartbeats 4000000 in
theorem heldIntS_yes (a : Option Addr) (n cap : Nat) (c : Int) (w : World) (hn : n ≤ 1000) (hc : 0 ≤ c ∧ c ≤ 1000) (h : RowIs w a n (fun i => c + i)) :
    Calls Try.prog 59 #[.slice a n cap, .int .i64 c] w fun e w' => e = .returned (.int .i64 (c + n)) ∧ Below w.heap.size w w' := by
  by_cases h0 : n = 0
  · subst h0
    go_enter Try.func59, Try.ntmps59
    go_wp2
    go_loopw [5, 1] (fun i x w' => i = .int .i64 0 ∧ x = .int .i64 c ∧ Below w.heap.size w w') (fun _ _ _ => 0)
    case atStart => exact ⟨rfl, rfl, Below.refl _ _⟩
    case round =>
      obtain ⟨rfl, rfl, hb⟩ := hrel
      go_wp2
      go_ret
      exact ⟨ret_i (by simp), hb⟩
  · obtain ⟨g, rfl, hg, -⟩ := h 0 (by omega)
    go_enter Try.func59, Try.ntmps59
    go_wp2
    go_loopw [5, 1] (fun i x w' => ∃ k : Nat, k ≤ n ∧ i = .int .i64 k ∧ x = .int .i64 (c + k) ∧ Below w.heap.size w w') (fun i _ _ => (n - intOf i).toNat)
    case atStart => exact ⟨0, by omega, rfl, by go_num, Below.refl _ _⟩
    case round =>
      obtain ⟨k, hk, rfl, rfl, hbw⟩ := hrel
      by_cases h4 : k < n
      · have c1 := (h.below hbw).at rfl k h4
        go_wp2
        go_roundw
        case rel => exact ⟨k + 1, by omega, by go_num, by go_num, hbw⟩
        case measure => simp [intOf]; omega
      · obtain rfl : k = n := by omega
        go_wp2
        go_ret
        exact ⟨rfl, hbw⟩

end Go.Proofs.Ytmjmafgjejphbaa
