/-
  The walks of the angles of steps, and of their tables.
-/
import Derived.Test.YtmjmafgjejphbaaPi
import Derived.Test.YtmjmafgjejphbaaSpanDiv
import Derived.Laws.OwnMore
import Derived.OwnWalk
import Derived.Lib.SmallJoins
namespace Go.Proofs.Ytmjmafgjejphbaa
open Go.RowKit

/-! ### Plain facts -/
theorem part_check : (List.range 16).all (fun j => (Fx.spanDiv (Fx.arc (2 ^ (j + 1))).1 (Fx.arc (2 ^ (j + 1))).2 Fx.piSpan.1 Fx.piSpan.2).2.2 &&
    (decide (0 ≤ (Fx.spanDiv (Fx.arc (2 ^ (j + 1))).1 (Fx.arc (2 ^ (j + 1))).2 Fx.piSpan.1 Fx.piSpan.2).1) && (decide ((Fx.spanDiv (Fx.arc (2 ^ (j + 1))).1 (Fx.arc (2 ^ (j + 1))).2 Fx.piSpan.1 Fx.piSpan.2).1 ≤ 1073741824) &&
      (decide (0 ≤ (Fx.spanDiv (Fx.arc (2 ^ (j + 1))).1 (Fx.arc (2 ^ (j + 1))).2 Fx.piSpan.1 Fx.piSpan.2).2.1) && decide ((Fx.spanDiv (Fx.arc (2 ^ (j + 1))).1 (Fx.arc (2 ^ (j + 1))).2 Fx.piSpan.1 Fx.piSpan.2).2.1 ≤ 1073741824))))) = true := by decide +kernel
theorem part_is (j : Nat) (h : j < 16) : ∃ a b lo hi r : Int, Fx.arcSpan (2 ^ (j + 1)) = (a, b) ∧ Fx.spanDiv a b 843314816 843314944 = (lo, hi, true) ∧ (0 ≤ lo ∧ lo ≤ 1073741824) ∧ (0 ≤ hi ∧ hi ≤ 1073741824) ∧
    Fx.rnd (lo + hi) 2 = r ∧ (0 ≤ r ∧ r ≤ 2147483648) ∧ Fx.rnd r 8 = Fx.stepA (j + 1) := by
  have hc := part_check
  rw [List.all_eq_true] at hc
  have h1 := hc j (List.mem_range.2 h)
  simp only [Bool.and_eq_true, decide_eq_true_eq] at h1
  obtain ⟨k1, k2, k3, k4, k5⟩ := h1
  have hp : Fx.piSpan = (843314816, 843314944) := Fx.pi_is
  have e2 : (2 : Int) ≤ 2 ^ (j + 1) ∧ (2 : Int) ^ (j + 1) ≤ 65536 := by
    have := Fx.one_le_pow j
    have h2 := Fx.pow_le_pow (k := j + 1) (n := 16) (by omega)
    rw [Int.pow_succ] at h2 ⊢
    have e16 : (2 : Int) ^ 16 = 65536 := by decide
    omega
  have es : Fx.stepA (j + 1) = Fx.rnd (Fx.rnd ((Fx.spanDiv (Fx.arc (2 ^ (j + 1))).1 (Fx.arc (2 ^ (j + 1))).2 Fx.piSpan.1 Fx.piSpan.2).1 + (Fx.spanDiv (Fx.arc (2 ^ (j + 1))).1 (Fx.arc (2 ^ (j + 1))).2 Fx.piSpan.1 Fx.piSpan.2).2.1) 2) 8 := by
    rw [Fx.stepA, if_pos h]
  rw [hp] at k1 k2 k3 k4 k5 es
  refine ⟨(Fx.arc (2 ^ (j + 1))).1, (Fx.arc (2 ^ (j + 1))).2, (Fx.spanDiv (Fx.arc (2 ^ (j + 1))).1 (Fx.arc (2 ^ (j + 1))).2 843314816 843314944).1, (Fx.spanDiv (Fx.arc (2 ^ (j + 1))).1 (Fx.arc (2 ^ (j + 1))).2 843314816 843314944).2.1, _, arc_yes e2, ?_, ⟨k2, k3⟩, ⟨k4, k5⟩, rfl, ?_, es.symm⟩
  · have k1' : (Fx.spanDiv (Fx.arc (2 ^ (j + 1))).1 (Fx.arc (2 ^ (j + 1))).2 843314816 843314944).2.2 = true := k1
    rw [← k1']
  · have g1 := Fx.rnd_mono (0 * 2) _ 2 (by omega) (show 0 * 2 ≤ (Fx.spanDiv (Fx.arc (2 ^ (j + 1))).1 (Fx.arc (2 ^ (j + 1))).2 843314816 843314944).1 + (Fx.spanDiv (Fx.arc (2 ^ (j + 1))).1 (Fx.arc (2 ^ (j + 1))).2 843314816 843314944).2.1 by simp only at k2 k4; omega)
    have g2 := Fx.rnd_mono _ (2147483648 * 2) 2 (by omega) (show (Fx.spanDiv (Fx.arc (2 ^ (j + 1))).1 (Fx.arc (2 ^ (j + 1))).2 843314816 843314944).1 + (Fx.spanDiv (Fx.arc (2 ^ (j + 1))).1 (Fx.arc (2 ^ (j + 1))).2 843314816 843314944).2.1 ≤ 2147483648 * 2 by simp only at k3 k5; omega)
    rw [Fx.rnd_mul _ _ (by omega)] at g1 g2
    exact ⟨g1, g2⟩
theorem step_more (j : Nat) (h : 16 ≤ j) : Fx.rnd (Fx.stepA j) 2 = Fx.stepA (j + 1) := by
  rw [Fx.stepA, if_neg (by omega)]

set_option maxHeartbeats 4000000 in
theorem s_stepAngle_nat : ∀ (k : Nat), k ≤ 20 → ∀ w : World,
    Calls Try.prog 49 #[.int .i64 k] w fun e w' => e = .returned (.int .i64 (Fx.stepA k)) ∧ Below w.heap.size w w'
  | 0, _, w => by
    have hx := Bx.nil w
    go_enter Try.func49, Try.ntmps49
    go_wp2_with (go_at_call 78; refine (l1In_yes _ _ _ _ ?_).mono ?_; omega; rintro e w' ⟨rfl, rfl⟩)
    go_ret
    exact ⟨rfl, hx.1⟩
  | j + 1, h, w => by
    have hx := Bx.nil w
    have hz : ((j : Int) + 1 == 0) = false := by
      have : (j : Int) + 1 ≠ 0 := by omega
      simpa using this
    by_cases h16 : j < 16
    · obtain ⟨a, b, lo, hi, r, e1, e2, hlo, hhi, e3, hr, e4⟩ := part_is j h16
      have A := fun w => s_arcSpan_any (2 ^ (j + 1)) w
      have D := fun w => s_spanDiv_any a b 843314816 843314944 w
      have PI := fun w => s_piSpan_any w
      rw [e1] at A
      rw [e2] at D
      rw [Fx.pi_is] at PI
      have R1 : ∀ w, Calls Try.prog 94 #[.int .i64 (lo + hi), .int .i64 2] w fun e w' => e = .returned (.int .i64 r) ∧ w = w' := by
        intro w; rw [← e3]; exact l1Round_any _ _ _ (by omega) (by omega)
      have R2 : ∀ w, Calls Try.prog 94 #[.int .i64 r, .int .i64 8] w fun e w' => e = .returned (.int .i64 (Fx.stepA (j + 1))) ∧ w = w' := by
        intro w; rw [← e4]; exact l1Round_any _ _ _ (by omega) (by omega)
      have hp : (2 : Int) ^ (j + 1) ≤ 65536 ∧ 1 ≤ (2 : Int) ^ (j + 1) := ⟨Fx.pow_le_pow (k := j + 1) (n := 16) (by omega), Fx.one_le_pow _⟩
      have hj : ((j : Int) + 1).toNat = j + 1 := by omega
      clear e1 e2 e3 e4
      go_enter Try.func49, Try.ntmps49
      go_wp2_with (first | (go_at_call 78; refine (l1In_yes _ _ _ _ ?_).mono ?_; omega; rintro e w' ⟨rfl, rfl⟩) | (go_at_call 38; (with_reducible refine (A _).mono ?_); rintro e w1 ⟨rfl, hb⟩; replace hx := Bx.below hx hb; clear hb) | (go_at_call 33; (with_reducible refine (PI _).mono ?_); rintro e w1 ⟨rfl, hb⟩; replace hx := Bx.below hx hb; clear hb) | (go_at_call 95; (with_reducible refine (D _).mono ?_); rintro e w3 ⟨rfl, hb⟩; replace hx := (Bx.below hx hb).box (lo) (hi) 31; clear hb; (try clear hf hd); (have hf := hx.2.2; simp only [List.forall_mem_cons, List.not_mem_nil, false_imp_iff, implies_true, and_true, Bx1] at hf; first | have hd := bx_apart4 hx | have hd := bx_apart3 hx | have hd := bx_apart2 hx | have hd := trivial)) | (go_at_call 94; (with_reducible refine (R1 _).mono ?_); rintro e w' ⟨rfl, rfl⟩) | (go_at_call 94; (with_reducible refine (R2 _).mono ?_); rintro e w' ⟨rfl, rfl⟩))
      go_ret
      exact ⟨rfl, hx.1⟩
    · have IH := fun w => s_stepAngle_nat j (by omega) w
      have es := step_more j (by omega)
      have hs := Fx.step_size j (by omega)
      have R1 : ∀ w, Calls Try.prog 94 #[.int .i64 (Fx.stepA j), .int .i64 2] w fun e w' => e = .returned (.int .i64 (Fx.stepA (j + 1))) ∧ w = w' := by
        intro w; rw [← es]; exact l1Round_any _ _ _ (by omega) (by omega)
      clear es
      go_enter Try.func49, Try.ntmps49
      go_wp2_with (first | (go_at_call 78; refine (l1In_yes _ _ _ _ ?_).mono ?_; omega; rintro e w' ⟨rfl, rfl⟩) | (go_at_call 49; (with_reducible refine (IH _).mono ?_); rintro e w1 ⟨rfl, hb⟩; replace hx := Bx.below hx hb; clear hb) | (go_at_call 94; (with_reducible refine (R1 _).mono ?_); rintro e w' ⟨rfl, rfl⟩))
      go_ret
      exact ⟨rfl, hx.1⟩

set_option maxHeartbeats 1000000 in
theorem s_stepAngle_any (k : Int) (w : World) :
    Calls Try.prog 49 #[.int .i64 k] w fun e w' => e = .returned (.int .i64 (Fx.stepAngle k)) ∧ Below w.heap.size w w' := by
  by_cases hk : 0 ≤ k ∧ k ≤ 20
  · have e : Fx.stepAngle k = Fx.stepA k.toNat := if_pos hk
    rw [e]
    have h := s_stepAngle_nat k.toNat (by omega) w
    rwa [Int.toNat_of_nonneg hk.1] at h
  · have e : Fx.stepAngle k = -1 := if_neg hk
    rw [e]
    have hx := Bx.nil w
    have hc : k < 0 ∨ 20 < k := by omega
    clear hk e
    go_enter Try.func49, Try.ntmps49
    go_wp2_with (go_at_call 78; refine (l1In_no _ _ _ _ ?_).mono ?_; omega; rintro e w' ⟨rfl, rfl⟩)
    go_ret
    exact ⟨rfl, hx.1⟩

/-! ### Tables -/
/-- The first m of n angles, then noughts. -/
def rowL (n m : Nat) : List Value := (List.range n).map fun i => .int .i64 (if i < m then Fx.stepA i else 0)
def stepL (n : Nat) : List Value := (List.range n).map fun i => .int .i64 (Fx.stepA i)
theorem rowL_set (n m : Nat) : (rowL n m).set m (.int .i64 (Fx.stepA m)) = rowL n (m + 1) := by
  apply List.ext_getElem?
  intro i
  unfold rowL
  by_cases hi : i < n
  · by_cases e : i = m
    · subst e
      rw [List.getElem?_set_self (by simpa using hi)]
      simp [hi]
    · rw [List.getElem?_set_ne (by omega)]
      simp only [List.getElem?_map, List.getElem?_range hi, Option.map_some]
      by_cases h1 : i < m
      · rw [if_pos h1, if_pos (by omega)]
      · rw [if_neg h1, if_neg (by omega)]
  · rw [List.getElem?_eq_none (by simp; omega), List.getElem?_eq_none (by simp; omega)]
theorem rowL_full (n : Nat) : rowL n n = stepL n := by
  unfold rowL stepL
  apply List.map_congr_left
  intro i hi
  rw [if_pos (List.mem_range.1 hi)]
theorem rowL_zero (n : Nat) : rowL n 0 = List.replicate n (.int .i64 0) := by
  unfold rowL
  apply List.ext_getElem?
  intro i
  by_cases hi : i < n
  · simp [hi]
  · simp [hi]
theorem rowL_at (n m i : Nat) (h : i < n) : (rowL n m)[i]? = some (.int .i64 (if i < m then Fx.stepA i else 0)) := by
  unfold rowL; simp [h]
theorem ownsRow_below' {W w' : World} {base n : Nat} {e : TypeId} {v : Value} {xs : List Value} (h : W.ownsRow base e 1 v n xs) (hb : Below W.heap.size W w') : w'.ownsRow base e 1 v n xs := by
  refine ⟨h.1, h.2.imp id ?_⟩
  rintro ⟨g, cap, cur, e1, e2, e3, e4⟩
  refine ⟨g, cap, cur, e1, e2, ?_, e4⟩
  rw [hb.block g (Array.getElem?_eq_some_iff.1 e3).1]; exact e3

/-- A table of n numbers in block b, the first m of them reckoned, beside boxes. -/
structure Tab (w : World) (b n m : Nat) (L : List (Nat × Int × Int)) (W : World) : Prop where
  row : W.ownsRow w.heap.size 3 1 (.slice (some ⟨b, 0, none⟩) n n) n (rowL n m)
  bx : Bx w L W
  new : b ∉ L.map (·.1)
theorem Tab.lt {w W : World} {b n m : Nat} {L : List (Nat × Int × Int)} (h : Tab w b n m L W) : w.heap.size ≤ b ∧ b < W.heap.size := h.row.lt b rfl
theorem Tab.apart {w W : World} {b n m : Nat} {L : List (Nat × Int × Int)} (h : Tab w b n m L W) : ∀ x ∈ L, x.1 ≠ b ∧ b ≠ x.1 := fun x hx => ⟨fun e => h.new (List.mem_map.2 ⟨x, hx, e⟩), fun e => h.new (List.mem_map.2 ⟨x, hx, e.symm⟩)⟩
theorem Tab.below {w W w' : World} {b n m : Nat} {L : List (Nat × Int × Int)} (h : Tab w b n m L W) (hb : Below W.heap.size W w') : Tab w b n m L w' := ⟨ownsRow_below' h.row hb, h.bx.below hb, h.new⟩
theorem Tab.drew {w W : World} {b n m : Nat} {L : List (Nat × Int × Int)} (h : Tab w b n m L W) : Tab w b n m L W.drew := ⟨h.row.drew, h.bx.drew, h.new⟩
theorem Tab.box {w W : World} {b n m : Nat} {L : List (Nat × Int × Int)} (h : Tab w b n m L W) (x y : Int) (T : TypeId) : Tab w b n m ((W.heap.size, x, y) :: L) (W.alloc (.cells #[.int .i64 x, .int .i64 y] T)) :=
  ⟨h.row.alloc _, h.bx.box x y T, by
    rw [List.map_cons, List.mem_cons, not_or]
    exact ⟨Nat.ne_of_lt h.lt.2, h.new⟩⟩
theorem Tab.boxDrew {w W : World} {b n m : Nat} {L : List (Nat × Int × Int)} (h : Tab w b n m L W) (x y : Int) (T : TypeId) : Tab w b n m ((W.heap.size, x, y) :: L) ((W.alloc (.cells #[.int .i64 x, .int .i64 y] T)).drew) := (h.box x y T).drew
theorem Tab.tail {w W : World} {b n m : Nat} {p : Nat × Int × Int} {L : List (Nat × Int × Int)} (h : Tab w b n m (p :: L) W) : Tab w b n m L W := ⟨h.row, h.bx.tail, fun k => h.new (List.mem_cons_of_mem _ k)⟩
theorem Tab.set0 {w W : World} {b n m c : Nat} {u v : Int} {L : List (Nat × Int × Int)} (h : Tab w b n m ((c, u, v) :: L) W) (x y : Int) : Tab w b n m ((c, x, y) :: L) ((W.setCell ⟨c, 0, none⟩ (.int .i64 x)).setCell ⟨c, 1, none⟩ (.int .i64 y)) := by
  have hn : Value.ownBlock (.slice (some ⟨b, 0, none⟩) n n) ≠ some c := by
    intro e
    have e2 : b = c := by simpa [Value.ownBlock] using e
    exact h.new (by rw [e2]; simp)
  exact ⟨ownsRow_setCell_other (a := ⟨c, 1, none⟩) (ownsRow_setCell_other (a := ⟨c, 0, none⟩) h.row hn _) hn _, h.bx.set0 x y, h.new⟩
theorem Bx.other {w W : World} {L : List (Nat × Int × Int)} (h : Bx w L W) {b : Nat} (i : Nat) (hb : w.heap.size ≤ b) (hn : b ∉ L.map (·.1)) (u : Value) : Bx w L (W.setCell ⟨b, i, none⟩ u) := by
  refine ⟨h.1.setCell hb _, h.2.1, fun x hx => ?_⟩
  obtain ⟨⟨a1, a2⟩, ⟨c, d⟩, e, f⟩ := h.2.2 x hx
  have hk : (W.setCell ⟨b, i, none⟩ u).heap[x.1]? = W.heap[x.1]? := Below.heap_setCell W ⟨b, i, none⟩ u x.1 (fun e => hn (List.mem_map.2 ⟨x, hx, e⟩))
  exact ⟨⟨a1, by simpa using a2⟩, ⟨by rw [World.cell?_of_block (w := W) hk]; exact c, by rw [World.cell?_of_block (w := W) hk]; exact d⟩, by rw [World.frozen?_of_block (w := W) hk]; exact e, by rw [World.frozen?_of_block (w := W) hk]; exact f⟩
theorem Tab.put {w W : World} {b n m : Nat} {L : List (Nat × Int × Int)} (h : Tab w b n m L W) : Tab w b n (m + 1) L (W.setCell ⟨b, m, none⟩ (.int .i64 (Fx.stepA m))) :=
  ⟨by have := (h.row.stored m (.int .i64 (Fx.stepA m))).1; rwa [rowL_set] at this, h.bx.other m h.lt.1 h.new _, h.new⟩
theorem Tab.now {w W : World} {b n m : Nat} {L : List (Nat × Int × Int)} (h : Tab w b n m L W) (hm : m < n) : W.cell? ⟨b, m, none⟩ = some (.int .i64 0) ∧ W.frozen? ⟨b, m, none⟩ = false :=
  ⟨by rw [h.row.cellAt m (by omega), rowL_at n m m hm, if_neg (Nat.lt_irrefl _)], h.row.frozenAt m⟩
theorem Tab.was {w W : World} {b n j : Nat} {L : List (Nat × Int × Int)} (h : Tab w b n (j + 1) L W) (hm : j < n) : W.cell? ⟨b, j, none⟩ = some (.int .i64 (Fx.stepA j)) := by
  rw [h.row.cellAt j (by omega), rowL_at n (j + 1) j hm, if_pos (Nat.lt_succ_self _)]

end Go.Proofs.Ytmjmafgjejphbaa
