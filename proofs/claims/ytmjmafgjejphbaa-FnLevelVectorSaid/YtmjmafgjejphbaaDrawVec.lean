/-
  The draws of vectors.
-/
import Derived.Test.YtmjmafgjejphbaaDrawSpans
import Derived.Deep.DeepCutAuto
namespace Go.Proofs.Ytmjmafgjejphbaa
open Go.RowKit

/-- One cell of a box stored. -/
theorem Box.put1 {b B : Nat} {v u : Value} {W : World} (h : Box b B v u W) (u' : Value) : Box b B v u' (W.setCell ⟨b, 1, none⟩ u') := by
  obtain ⟨⟨a1, a2, a3, a4⟩, ⟨c0, c1⟩, f0, f1⟩ := h
  refine ⟨⟨by simpa using a1, a2, by simpa using a3, ?_⟩, ⟨?_, World.cell?_setCell_same _ _ _ c1⟩, by simpa using f0, by simpa using f1⟩
  · exact fun a len cap e => a4 a len cap (by rw [World.cell?_of_block (w := W) (Below.heap_setCell W ⟨b, 1, none⟩ u' B (by show B ≠ b; exact Ne.symm a2))] at e; exact e)
  · rw [World.cell?_setCell_other _ _ _ _ (by simp)]; exact c0
theorem Box.other1 {b c B : Nat} {v u : Value} {W : World} (h : Box b B v u W) (hc : b ≠ c) (hB : c ≠ B) (u' : Value) : Box b B v u (W.setCell ⟨c, 1, none⟩ u') := by
  obtain ⟨⟨a1, a2, a3, a4⟩, ⟨c0, c1⟩, f0, f1⟩ := h
  have hk : (W.setCell ⟨c, 1, none⟩ u').heap[b]? = W.heap[b]? := Below.heap_setCell W ⟨c, 1, none⟩ u' b (by show b ≠ c; exact hc)
  refine ⟨⟨by simpa using a1, a2, by simpa using a3, ?_⟩, ⟨by rw [World.cell?_of_block (w := W) hk]; exact c0, by rw [World.cell?_of_block (w := W) hk]; exact c1⟩, by rw [World.frozen?_of_block (w := W) hk]; exact f0, by rw [World.frozen?_of_block (w := W) hk]; exact f1⟩
  exact fun a len cap e => a4 a len cap (by rw [World.cell?_of_block (w := W) (Below.heap_setCell W ⟨c, 1, none⟩ u' B (by show B ≠ c; exact Ne.symm hB))] at e; exact e)
theorem Rd.put1 {W : World} {B : Nat} {p : Int} (h : Rd W B p) {b : Nat} {v0 u0 : Value} (hb : Box b B v0 u0 W) (u : Value) : Rd (W.setCell ⟨b, 1, none⟩ u) B p := by
  obtain ⟨⟨a1, a2, a3, a4⟩, -⟩ := hb
  exact h.setOther b 1 a2 a4 u

set_option linter.unusedVariables false in
def kindsVec (S : List Nat) (B : Nat) : Nat → Value → World → Prop
  | 0, v, _ => IsNum v
  | 1, v, _ => IsNum v
  | 2, v, _ => IsNum v
  | 3, v, w => RowNum S 3 v w
  | 4, v, _ => IsRd B v
  | 5, v, _ => NumIn 0 2 v
  | 6, v, w => AtNum S v w
  | 7, v, _ => IsNum v
  | 8, v, _ => IsNum v
  | 9, v, _ => IsNum v
  | 10, v, _ => IsNum v
  | 11, v, w => RowNum S 3 v w
  | 12, v, _ => IsRd B v
  | 13, v, _ => NumIn 0 2 v
  | 14, v, w => AtNum S v w
  | 15, v, _ => IsNum v
  | 16, v, _ => IsPair v
  | 17, v, _ => True
  | _, _, _ => True
set_option linter.unusedVariables false in
theorem kindsVec_keep (S : List Nat) (B : Nat) (j : Nat) (v : Value) (w w' : World) (h : kindsVec S B j v w) (k : KeptS S w w') : kindsVec S B j v w' := by
  unfold kindsVec at *
  split at h <;> first | exact h | exact h.keep k

set_option maxRecDepth 8000 in
set_option maxHeartbeats 8000000 in
theorem l20Vector_any (B : Nat) (p : Int) (w : World) (h : Rd w B p) (hp : p ≤ 500000) :
    Calls Try.prog 103 #[.pointer (some ⟨B, 0, none⟩), .int .i64 1099511627776, .int .i64 12] w (DrewPair w B p 40) := by
  have hB := h.1
  have hx := Box.made (.int .i64 0) (.int .i64 0) 46 h
  go_enter Try.func103, Try.ntmps103
  go_wp2_with fail
  refine (pick_any _ _ _ _ (h.alloc _) (by omega)).mono ?_
  rintro e w1 ⟨x1, rfl, hx1, hr1, hk1⟩
  have g1 := hx1 (by omega)
  have hx := hx.keep hk1
  have hK := ((Kept.refl B w).alloc _).trans hk1
  clear hx1 hk1 h
  go_wp2_with fail
  refine (pick_any _ _ _ _ hr1 (by omega)).mono ?_
  rintro e w2 ⟨x2, rfl, hx2, hr2, hk2⟩
  have g2 := hx2 (by omega)
  have hx := hx.keep hk2
  have hK := hK.trans hk2
  clear hx2 hk2 hr1
  have hd : (1099511627776 : Int).tdiv 128 = 8589934592 := by decide
  have hy := Box.made (.int .i64 ((x1 - 128) * 8589934592)) (.int .i64 ((x2 - 128) * 8589934592)) 46 hr2
  have hs : w.heap.size < w2.heap.size := hx.1.1
  have hx := hx.alloc (.cells #[.int .i64 ((x1 - 128) * 8589934592), .int .i64 ((x2 - 128) * 8589934592)] 46)
  have hK := hK.alloc (.cells #[.int .i64 ((x1 - 128) * 8589934592), .int .i64 ((x2 - 128) * 8589934592)] 46)
  have hne : w.heap.size ≠ w2.heap.size := Nat.ne_of_lt hs
  have hne2 : w2.heap.size ≠ w.heap.size := Nat.ne_of_gt hs
  have hle : w.heap.size ≤ w2.heap.size := Nat.le_of_lt hs
  go_wp2_with fail
  refine (pick_any _ _ _ _ (hr2.alloc _) (by omega)).mono ?_
  rintro e w3 ⟨x3, rfl, hx3, hr3, hk3⟩
  have g3 := hx3 (by omega)
  have hx := hx.keep hk3
  have hy := hy.keep hk3
  have hK := hK.trans hk3
  clear hx3 hk3 hr2
  rcases (show x3 = 0 ∨ x3 = 1 ∨ x3 = 2 ∨ 3 ≤ x3 by omega) with c0 | c0 | c0 | c0
  · subst c0
    go_wp2_with fail
    refine (pick_any _ _ _ _ hr3 (by omega)).mono ?_
    rintro e w4 ⟨x4, rfl, hx4, hr4, hk4⟩
    have g4 := hx4 (by omega)
    have hx := hx.keep hk4
    have hy := hy.keep hk4
    have hK := hK.trans hk4
    clear hx4 hk4 hr3
    go_wp2_with fail
    refine (pick_any _ _ _ _ hr4 (by omega)).mono ?_
    rintro e w5 ⟨x5, rfl, hx5, hr5, hk5⟩
    have g5 := hx5 (by omega)
    have hx := hx.keep hk5
    have hy := hy.keep hk5
    have hK := hK.trans hk5
    clear hx5 hk5 hr4
    obtain ⟨⟨t0, t1, -⟩, ⟨d0, d1⟩, k0, k1⟩ := id hy
    go_wp2_with fail
    clear d0 d1 k0 k1
    have hx := hx.other hne t1 (.int .i64 (x4 - 128)) (.int .i64 (x5 - 128))
    have hK := hK.put2 (b := w2.heap.size) hle (.int .i64 (x4 - 128)) (.int .i64 (x5 - 128))
    have hr6 := hr5.put2 hy (.int .i64 (x4 - 128)) (.int .i64 (x5 - 128))
    have hy := hy.put (.int .i64 (x4 - 128)) (.int .i64 (x5 - 128))
    refine (odd_any _ _ _ _ hr6 (by omega) (by omega)).mono ?_
    rintro e w8 ⟨x8, rfl, ⟨q8, hq8, hr8⟩, hk8⟩
    have hx := hx.keep hk8
    have hy := hy.keep hk8
    have hK := hK.trans hk8
    clear hk8 hr6
    cases x8
    · obtain ⟨⟨t0, t1, -⟩, ⟨d0, d1⟩, k0, k1⟩ := id hy
      obtain ⟨⟨s0, s1, -⟩, ⟨z0, z1⟩, f0, f1⟩ := id hx
      obtain ⟨-, ⟨e0, e1⟩, -⟩ := hx.put (.int .i64 (x4-128)) (.int .i64 (x5-128))
      unfold put2 at e0 e1
      go_wp2
      (try simp only [Exit.inBlock, Exit.then])
      exact bodyPost_ret (v := .agg #[.int .i64 (x4-128), .int .i64 (x5-128)]) (by simp [results, Try.results103, go_sem, e0, e1]) rfl ⟨_, _, rfl, ⟨_, by omega, hr8.put2 hx (.int .i64 (x4-128)) (.int .i64 (x5-128))⟩, hK.put2 (Nat.le_refl _) (.int .i64 (x4-128)) (.int .i64 (x5-128))⟩
    · go_wp2_with fail
      refine (pick_any _ _ _ _ (hr8.alloc _) (by omega)).mono ?_
      rintro e w9 ⟨x9, rfl, hx9, hr9, hk9⟩
      have g9 := hx9 (by omega)
      have hx := (hx.alloc _).keep hk9
      have hy := (hy.alloc _).keep hk9
      have hK := (hK.alloc _).trans hk9
      obtain ⟨b, c9⟩ := hk9.row hr8.1 rfl x9.toNat (by simp; omega)
      clear hx9 hk9
      obtain ⟨⟨t0, t1, -⟩, ⟨d0, d1⟩, k0, k1⟩ := id hy
      obtain ⟨⟨s0, s1, -⟩, ⟨z0, z1⟩, f0, f1⟩ := id hx
      have hX := hx.other1 hne t1 (.int .i64 b)
      obtain ⟨-, ⟨d2, d3⟩, -⟩ := hy.put1 (.int .i64 b)
      obtain ⟨-, ⟨e0, e1⟩, -⟩ := hX.put (.int .i64 (x4-128)) (.int .i64 b)
      unfold put2 at e0 e1
      have hr9 := (hr9.put1 hy (.int .i64 b)).put2 hX (.int .i64 (x4-128)) (.int .i64 b)
      have hK := (hK.setCell w2.heap.size 1 hle (.int .i64 b)).put2 (Nat.le_refl _) (.int .i64 (x4-128)) (.int .i64 b)
      clear hX hx hy
      go_wp2
      (try simp only [Exit.inBlock, Exit.then])
      exact bodyPost_ret (v := .agg #[.int .i64 (x4-128), .int .i64 b]) (by simp [results, Try.results103, go_sem, e0, e1]) rfl ⟨_, _, rfl, ⟨_, by omega, hr9⟩, hK⟩
  · subst c0
    go_wp2_with fail
    refine (pick_any _ _ _ _ hr3 (by omega)).mono ?_
    rintro e w4 ⟨x4, rfl, hx4, hr4, hk4⟩
    have g4 := hx4 (by omega)
    have hx := hx.keep hk4
    have hy := hy.keep hk4
    have hK := hK.trans hk4
    clear hx4 hk4 hr3
    go_wp2_with fail
    refine (pick_any _ _ _ _ hr4 (by omega)).mono ?_
    rintro e w5 ⟨x5, rfl, hx5, hr5, hk5⟩
    have g5 := hx5 (by omega)
    have hx := hx.keep hk5
    have hy := hy.keep hk5
    have hK := hK.trans hk5
    clear hx5 hk5 hr4
    obtain ⟨⟨t0, t1, -⟩, ⟨d0, d1⟩, k0, k1⟩ := id hy
    go_wp2_with fail
    clear d0 d1 k0 k1
    have hx := hx.other hne t1 (.int .i64 (x4 - 1)) (.int .i64 (x5 - 1))
    have hK := hK.put2 (b := w2.heap.size) hle (.int .i64 (x4 - 1)) (.int .i64 (x5 - 1))
    have hr6 := hr5.put2 hy (.int .i64 (x4 - 1)) (.int .i64 (x5 - 1))
    have hy := hy.put (.int .i64 (x4 - 1)) (.int .i64 (x5 - 1))
    refine (odd_any _ _ _ _ hr6 (by omega) (by omega)).mono ?_
    rintro e w8 ⟨x8, rfl, ⟨q8, hq8, hr8⟩, hk8⟩
    have hx := hx.keep hk8
    have hy := hy.keep hk8
    have hK := hK.trans hk8
    clear hk8 hr6
    cases x8
    · obtain ⟨⟨t0, t1, -⟩, ⟨d0, d1⟩, k0, k1⟩ := id hy
      obtain ⟨⟨s0, s1, -⟩, ⟨z0, z1⟩, f0, f1⟩ := id hx
      obtain ⟨-, ⟨e0, e1⟩, -⟩ := hx.put (.int .i64 (x4-1)) (.int .i64 (x5-1))
      unfold put2 at e0 e1
      go_wp2
      (try simp only [Exit.inBlock, Exit.then])
      exact bodyPost_ret (v := .agg #[.int .i64 (x4-1), .int .i64 (x5-1)]) (by simp [results, Try.results103, go_sem, e0, e1]) rfl ⟨_, _, rfl, ⟨_, by omega, hr8.put2 hx (.int .i64 (x4-1)) (.int .i64 (x5-1))⟩, hK.put2 (Nat.le_refl _) (.int .i64 (x4-1)) (.int .i64 (x5-1))⟩
    · go_wp2_with fail
      refine (pick_any _ _ _ _ (hr8.alloc _) (by omega)).mono ?_
      rintro e w9 ⟨x9, rfl, hx9, hr9, hk9⟩
      have g9 := hx9 (by omega)
      have hx := (hx.alloc _).keep hk9
      have hy := (hy.alloc _).keep hk9
      have hK := (hK.alloc _).trans hk9
      obtain ⟨b, c9⟩ := hk9.row hr8.1 rfl x9.toNat (by simp; omega)
      clear hx9 hk9
      obtain ⟨⟨t0, t1, -⟩, ⟨d0, d1⟩, k0, k1⟩ := id hy
      obtain ⟨⟨s0, s1, -⟩, ⟨z0, z1⟩, f0, f1⟩ := id hx
      have hX := hx.other1 hne t1 (.int .i64 b)
      obtain ⟨-, ⟨d2, d3⟩, -⟩ := hy.put1 (.int .i64 b)
      obtain ⟨-, ⟨e0, e1⟩, -⟩ := hX.put (.int .i64 (x4-1)) (.int .i64 b)
      unfold put2 at e0 e1
      have hr9 := (hr9.put1 hy (.int .i64 b)).put2 hX (.int .i64 (x4-1)) (.int .i64 b)
      have hK := (hK.setCell w2.heap.size 1 hle (.int .i64 b)).put2 (Nat.le_refl _) (.int .i64 (x4-1)) (.int .i64 b)
      clear hX hx hy
      go_wp2
      (try simp only [Exit.inBlock, Exit.then])
      exact bodyPost_ret (v := .agg #[.int .i64 (x4-1), .int .i64 b]) (by simp [results, Try.results103, go_sem, e0, e1]) rfl ⟨_, _, rfl, ⟨_, by omega, hr9⟩, hK⟩
  · subst c0
    go_wp2_with fail
    have hY := staysS_true [B, w2.heap.size, w.heap.size]
    have hBS : B ∈ [B, w2.heap.size, w.heap.size] := by simp
    refine Fxr.wp_region_typed (kindsVec [B, w2.heap.size, w.heap.size] B) (ReadsP [B, w2.heap.size, w.heap.size] w3 B (p + 1 + 1 + 1) 1 [w2.heap.size, w.heap.size] (fun _ => True)) (KeptS [B, w2.heap.size, w.heap.size]) (by kernel_rfl) (by kernel_rfl) (by kernel_rfl) rfl (kindsVec_keep _ _)
      ⟨⟨p + 1 + 1 + 1, by omega, hr3⟩, (KeptS.refl _ _).drewN 1, by have := hr3.1; have := hx.1.1; have := hy.1.1; simp at *; omega, (Pairs.cons hy (Pairs.cons hx (Pairs.none _ _))).drewN 1, trivial, rfl⟩ ?_ ?_
    · have hB := hBS
      clear hK hx hy hr3 hBS
      refine ⟨?_, ?_, ?_, ?_, ?_, ?_, ?_, ?_, ?_, ?_, ?_, ?_, ?_, ?_, ?_, ?_, ?_, ?_, trivial⟩
      · intro a wr k hk hl hR hd hold
        have d1 : a.tmps.getD 1 undef = .int .i64 1099511627776 := hl.rest 1 (not_dst rfl)
        refine wpOp_at _ rfl rfl ?_
        have f1 := getD_form d1
        clear hl hd hold hk
        go_simp
        exact ⟨_, rfl, ⟨_, rfl⟩, hR.next (by decide), KeptS.refl _ _⟩
      · intro a wr k hk hl hR hd hold
        have d1 : a.tmps.getD 1 undef = .int .i64 1099511627776 := hl.rest 1 (not_dst rfl)
        refine wpOp_at _ rfl rfl ?_
        have f1 := getD_form d1
        clear hl hd hold hk
        go_simp
        exact ⟨_, rfl, ⟨_, rfl⟩, hR.next (by decide), KeptS.refl _ _⟩
      · intro a wr k hk hl hR hd hold
        obtain ⟨x44, d44⟩ : IsNum (a.tmps.getD 44 undef) := hd ⟨1, .data⟩ (by simp) rfl
        refine wpOp_at _ rfl rfl ?_
        have f44 := getD_form d44
        clear hl hd hold hk
        go_simp
        exact ⟨_, rfl, ⟨_, rfl⟩, hR.next (by decide), KeptS.refl _ _⟩
      · intro a wr k hk hl hR hd hold
        obtain ⟨x43, d43⟩ : IsNum (a.tmps.getD 43 undef) := hd ⟨0, .data⟩ (by simp) rfl
        obtain ⟨x45, d45⟩ : IsNum (a.tmps.getD 45 undef) := hd ⟨2, .data⟩ (by simp) rfl
        refine wpOp_at _ rfl rfl ?_
        have f43 := getD_form d43
        have f45 := getD_form d45
        clear hl hd hold hk
        go_simp
        exact ⟨_, rfl, RowNum.made hR.fresh _ _ 3 rfl rfl, hR.alloc (by decide) hY _, (KeptS.refl _ _).alloc _⟩
      · intro a wr k hk hl hR hd hold
        have d0 : a.tmps.getD 0 undef = .pointer (some ⟨_, 0, none⟩) := hl.rest 0 (not_dst rfl)
        refine wpOp_at _ rfl rfl ?_
        have f0 := getD_form d0
        clear hl hd hold hk
        go_simp
        exact ⟨_, rfl, rfl, hR.next (by decide), KeptS.refl _ _⟩
      · intro a wr k hk hl hR hd hold
        have d47 : a.tmps.getD 47 undef = .pointer (some ⟨_, 0, none⟩) := hd ⟨4, .data⟩ (by simp) rfl
        refine wpOp_at _ rfl rfl ?_
        have f47 := getD_form d47
        obtain ⟨q0, hq0, hr0⟩ := hR.reader
        have hk0 : k < 18 := hk
        clear hl hd hold hk
        go_simp
        refine (pick_any _ _ _ _ hr0 (by omega)).mono ?_
        rintro e w1 ⟨x, rfl, hx, hr1, hk1⟩
        have hx1 := hx (by omega)
        exact ⟨_, rfl, ⟨x, rfl, hx1.1, by omega⟩, hR.gone hY hB (by omega) hr1 hk1, hk1.toS hB⟩
      · intro a wr k hk hl hR hd hold
        obtain ⟨b46, d46, n46, s46, c46⟩ : RowNum _ 3 (a.tmps.getD 46 undef) wr := hd ⟨3, .data⟩ (by simp) rfl
        obtain ⟨x48, d48, l48, u48⟩ : NumIn 0 2 (a.tmps.getD 48 undef) := hd ⟨5, .data⟩ (by simp) rfl
        refine wpOp_at _ rfl rfl ?_
        have f46 := getD_form d46
        have f48 := getD_form d48
        have z48 : 0 ≤ x48 ∧ x48 < 3 := ⟨by omega, by omega⟩
        clear hl hd hold hk
        have C46 := Lib.hid c46
        clear c46
        go_simp
        exact ⟨_, rfl, row_num n46 s46 C46.out z48, hR.next (by decide), KeptS.refl _ _⟩
      · intro a wr k hk hl hR hd hold
        obtain ⟨b49, i49, d49, n49, s49, y49, c49⟩ : AtNum _ (a.tmps.getD 49 undef) wr := hd ⟨6, .data⟩ (by simp) rfl
        refine wpOp_at _ rfl rfl ?_
        have f49 := getD_form d49
        clear hl hd hold hk
        go_simp
        exact ⟨_, rfl, ⟨_, rfl⟩, hR.next (by decide), KeptS.refl _ _⟩
      · intro a wr k hk hl hR hd hold
        have d1 : a.tmps.getD 1 undef = .int .i64 1099511627776 := hl.rest 1 (not_dst rfl)
        refine wpOp_at _ rfl rfl ?_
        have f1 := getD_form d1
        clear hl hd hold hk
        go_simp
        exact ⟨_, rfl, ⟨_, rfl⟩, hR.next (by decide), KeptS.refl _ _⟩
      · intro a wr k hk hl hR hd hold
        have d1 : a.tmps.getD 1 undef = .int .i64 1099511627776 := hl.rest 1 (not_dst rfl)
        refine wpOp_at _ rfl rfl ?_
        have f1 := getD_form d1
        clear hl hd hold hk
        go_simp
        exact ⟨_, rfl, ⟨_, rfl⟩, hR.next (by decide), KeptS.refl _ _⟩
      · intro a wr k hk hl hR hd hold
        obtain ⟨x52, d52⟩ : IsNum (a.tmps.getD 52 undef) := hd ⟨9, .data⟩ (by simp) rfl
        refine wpOp_at _ rfl rfl ?_
        have f52 := getD_form d52
        clear hl hd hold hk
        go_simp
        exact ⟨_, rfl, ⟨_, rfl⟩, hR.next (by decide), KeptS.refl _ _⟩
      · intro a wr k hk hl hR hd hold
        obtain ⟨x51, d51⟩ : IsNum (a.tmps.getD 51 undef) := hd ⟨8, .data⟩ (by simp) rfl
        obtain ⟨x53, d53⟩ : IsNum (a.tmps.getD 53 undef) := hd ⟨10, .data⟩ (by simp) rfl
        refine wpOp_at _ rfl rfl ?_
        have f51 := getD_form d51
        have f53 := getD_form d53
        clear hl hd hold hk
        go_simp
        exact ⟨_, rfl, RowNum.made hR.fresh _ _ 3 rfl rfl, hR.alloc (by decide) hY _, (KeptS.refl _ _).alloc _⟩
      · intro a wr k hk hl hR hd hold
        have d0 : a.tmps.getD 0 undef = .pointer (some ⟨_, 0, none⟩) := hl.rest 0 (not_dst rfl)
        refine wpOp_at _ rfl rfl ?_
        have f0 := getD_form d0
        clear hl hd hold hk
        go_simp
        exact ⟨_, rfl, rfl, hR.next (by decide), KeptS.refl _ _⟩
      · intro a wr k hk hl hR hd hold
        have d55 : a.tmps.getD 55 undef = .pointer (some ⟨_, 0, none⟩) := hd ⟨12, .data⟩ (by simp) rfl
        refine wpOp_at _ rfl rfl ?_
        have f55 := getD_form d55
        obtain ⟨q0, hq0, hr0⟩ := hR.reader
        have hk0 : k < 18 := hk
        clear hl hd hold hk
        go_simp
        refine (pick_any _ _ _ _ hr0 (by omega)).mono ?_
        rintro e w1 ⟨x, rfl, hx, hr1, hk1⟩
        have hx1 := hx (by omega)
        exact ⟨_, rfl, ⟨x, rfl, hx1.1, by omega⟩, hR.gone hY hB (by omega) hr1 hk1, hk1.toS hB⟩
      · intro a wr k hk hl hR hd hold
        obtain ⟨b54, d54, n54, s54, c54⟩ : RowNum _ 3 (a.tmps.getD 54 undef) wr := hd ⟨11, .data⟩ (by simp) rfl
        obtain ⟨x56, d56, l56, u56⟩ : NumIn 0 2 (a.tmps.getD 56 undef) := hd ⟨13, .data⟩ (by simp) rfl
        refine wpOp_at _ rfl rfl ?_
        have f54 := getD_form d54
        have f56 := getD_form d56
        have z56 : 0 ≤ x56 ∧ x56 < 3 := ⟨by omega, by omega⟩
        clear hl hd hold hk
        have C54 := Lib.hid c54
        clear c54
        go_simp
        exact ⟨_, rfl, row_num n54 s54 C54.out z56, hR.next (by decide), KeptS.refl _ _⟩
      · intro a wr k hk hl hR hd hold
        obtain ⟨b57, i57, d57, n57, s57, y57, c57⟩ : AtNum _ (a.tmps.getD 57 undef) wr := hd ⟨14, .data⟩ (by simp) rfl
        refine wpOp_at _ rfl rfl ?_
        have f57 := getD_form d57
        clear hl hd hold hk
        go_simp
        exact ⟨_, rfl, ⟨_, rfl⟩, hR.next (by decide), KeptS.refl _ _⟩
      · intro a wr k hk hl hR hd hold
        obtain ⟨x50, d50⟩ : IsNum (a.tmps.getD 50 undef) := hd ⟨7, .data⟩ (by simp) rfl
        obtain ⟨x58, d58⟩ : IsNum (a.tmps.getD 58 undef) := hd ⟨15, .data⟩ (by simp) rfl
        refine wpOp_at _ rfl rfl ?_
        have f50 := getD_form d50
        have f58 := getD_form d58
        clear hl hd hold hk
        go_simp
        exact ⟨_, rfl, ⟨_, _, rfl⟩, hR.next (by decide), KeptS.refl _ _⟩
      · intro a wr k hk hl hR hd hold
        have d7 : a.tmps.getD 7 undef = .pointer (some ⟨w2.heap.size, 0, none⟩) := hl.rest 7 (not_dst rfl)
        obtain ⟨x59, y59, d59⟩ : IsPair (a.tmps.getD 59 undef) := hd ⟨16, .data⟩ (by simp) rfl
        refine wpOp_at _ rfl rfl ?_
        have f7 := getD_form d7
        have f59 := getD_form d59
        obtain ⟨x0, y0, ⟨t0, t1, -⟩, ⟨e0, e1⟩, f0, f1⟩ := hR.pairs w2.heap.size (by simp)
        clear hl hd hold hk
        go_simp
        exact ⟨⟨undef, trivial⟩, hR.put (by decide) hY (b := w2.heap.size) (by simp) (by simp) x59 y59, keptS_put2 (b := w2.heap.size) (by simp) _ _⟩
    ·
      intro a wr k hk0 hl hR hT
      obtain ⟨x43, d43⟩ : IsNum (a.tmps.getD 43 undef) := hT 0 (by decide)
      obtain ⟨x44, d44⟩ : IsNum (a.tmps.getD 44 undef) := hT 1 (by decide)
      obtain ⟨x45, d45⟩ : IsNum (a.tmps.getD 45 undef) := hT 2 (by decide)
      obtain ⟨b46, d46, -⟩ : RowNum _ 3 (a.tmps.getD 46 undef) wr := hT 3 (by decide)
      have d47 : a.tmps.getD 47 undef = .pointer (some ⟨_, 0, none⟩) := hT 4 (by decide)
      obtain ⟨x48, d48, l48, u48⟩ : NumIn 0 2 (a.tmps.getD 48 undef) := hT 5 (by decide)
      obtain ⟨b49, i49, d49, -⟩ : AtNum _ (a.tmps.getD 49 undef) wr := hT 6 (by decide)
      obtain ⟨x50, d50⟩ : IsNum (a.tmps.getD 50 undef) := hT 7 (by decide)
      obtain ⟨x51, d51⟩ : IsNum (a.tmps.getD 51 undef) := hT 8 (by decide)
      obtain ⟨x52, d52⟩ : IsNum (a.tmps.getD 52 undef) := hT 9 (by decide)
      obtain ⟨x53, d53⟩ : IsNum (a.tmps.getD 53 undef) := hT 10 (by decide)
      obtain ⟨b54, d54, -⟩ : RowNum _ 3 (a.tmps.getD 54 undef) wr := hT 11 (by decide)
      have d55 : a.tmps.getD 55 undef = .pointer (some ⟨_, 0, none⟩) := hT 12 (by decide)
      obtain ⟨x56, d56, l56, u56⟩ : NumIn 0 2 (a.tmps.getD 56 undef) := hT 13 (by decide)
      obtain ⟨b57, i57, d57, -⟩ : AtNum _ (a.tmps.getD 57 undef) wr := hT 14 (by decide)
      obtain ⟨x58, d58⟩ : IsNum (a.tmps.getD 58 undef) := hT 15 (by decide)
      obtain ⟨x59, y59, d59⟩ : IsPair (a.tmps.getD 59 undef) := hT 16 (by decide)
      have ea := Fxr.act_ext a [_, _, _, _, _, _, _, _, _, _, _, _, _, _, _, _, _, _, _, _, _, _, _, _, _, _, _, _, _, _, _, _, _, _, _, _, _, _, _, _, _, _, _, _, _, _, _, _, _, _, _, _, _, _, _, _, _, _, _, _, _, _, _, _, _, _, _, _, _, _, _, _, _, _, _] hl.defers (by exact hl.size) ⟨hl.rest 0 (not_dst rfl), hl.rest 1 (not_dst rfl), hl.rest 2 (not_dst rfl), hl.rest 3 (not_dst rfl), hl.rest 4 (not_dst rfl), hl.rest 5 (not_dst rfl), hl.rest 6 (not_dst rfl), hl.rest 7 (not_dst rfl), hl.rest 8 (not_dst rfl), hl.rest 9 (not_dst rfl), hl.rest 10 (not_dst rfl), hl.rest 11 (not_dst rfl), hl.rest 12 (not_dst rfl), hl.rest 13 (not_dst rfl), hl.rest 14 (not_dst rfl), hl.rest 15 (not_dst rfl), hl.rest 16 (not_dst rfl), hl.rest 17 (not_dst rfl), hl.rest 18 (not_dst rfl), hl.rest 19 (not_dst rfl), hl.rest 20 (not_dst rfl), hl.rest 21 (not_dst rfl), hl.rest 22 (not_dst rfl), hl.rest 23 (not_dst rfl), hl.rest 24 (not_dst rfl), hl.rest 25 (not_dst rfl), hl.rest 26 (not_dst rfl), hl.rest 27 (not_dst rfl), hl.rest 28 (not_dst rfl), hl.rest 29 (not_dst rfl), hl.rest 30 (not_dst rfl), hl.rest 31 (not_dst rfl), hl.rest 32 (not_dst rfl), hl.rest 33 (not_dst rfl), hl.rest 34 (not_dst rfl), hl.rest 35 (not_dst rfl), hl.rest 36 (not_dst rfl), hl.rest 37 (not_dst rfl), hl.rest 38 (not_dst rfl), hl.rest 39 (not_dst rfl), hl.rest 40 (not_dst rfl), hl.rest 41 (not_dst rfl), hl.rest 42 (not_dst rfl), d43, d44, d45, d46, d47, d48, d49, d50, d51, d52, d53, d54, d55, d56, d57, d58, d59, hl.rest 60 (not_dst rfl), hl.rest 61 (not_dst rfl), hl.rest 62 (not_dst rfl), hl.rest 63 (not_dst rfl), hl.rest 64 (not_dst rfl), hl.rest 65 (not_dst rfl), hl.rest 66 (not_dst rfl), hl.rest 67 (not_dst rfl), hl.rest 68 (not_dst rfl), hl.rest 69 (not_dst rfl), hl.rest 70 (not_dst rfl), hl.rest 71 (not_dst rfl), hl.rest 72 (not_dst rfl), hl.rest 73 (not_dst rfl), hl.rest 74 (not_dst rfl), trivial⟩
      clear hT hl
      subst ea
      have hK := hR.toKept hK (by simp; omega)
      obtain ⟨xa, ya, hy⟩ := hR.pairs w2.heap.size (by simp)
      obtain ⟨xb, yb, hx⟩ := hR.pairs w.heap.size (by simp)
      obtain ⟨q6, hq6, hr6⟩ := hR.reader
      have hk9 : k ≤ 18 := hk0
      have hq7 : q6 ≤ p + 1 + 1 + 1 + 18 := by omega
      clear hq6 hk0
      clear hR hBS hr3
      go_wp2_with fail
      refine (odd_any _ _ _ _ hr6 (by omega) (by omega)).mono ?_
      rintro e w8 ⟨x8, rfl, ⟨q8, hq8, hr8⟩, hk8⟩
      have hx := hx.keep hk8
      have hy := hy.keep hk8
      have hK := hK.trans hk8
      clear hk8 hr6
      cases x8
      · obtain ⟨⟨t0, t1, -⟩, ⟨d0, d1⟩, k0, k1⟩ := id hy
        obtain ⟨⟨s0, s1, -⟩, ⟨z0, z1⟩, f0, f1⟩ := id hx
        obtain ⟨-, ⟨e0, e1⟩, -⟩ := hx.put (.int .i64 xa) (.int .i64 ya)
        unfold put2 at e0 e1
        go_wp2
        (try simp only [Exit.inBlock, Exit.then])
        exact bodyPost_ret (v := .agg #[.int .i64 xa, .int .i64 ya]) (by simp [results, Try.results103, go_sem, e0, e1]) rfl ⟨_, _, rfl, ⟨_, by omega, hr8.put2 hx (.int .i64 xa) (.int .i64 ya)⟩, hK.put2 (Nat.le_refl _) (.int .i64 xa) (.int .i64 ya)⟩
      · go_wp2_with fail
        refine (pick_any _ _ _ _ (hr8.alloc _) (by omega)).mono ?_
        rintro e w9 ⟨x9, rfl, hx9, hr9, hk9⟩
        have g9 := hx9 (by omega)
        have hx := (hx.alloc _).keep hk9
        have hy := (hy.alloc _).keep hk9
        have hK := (hK.alloc _).trans hk9
        obtain ⟨b, c9⟩ := hk9.row hr8.1 rfl x9.toNat (by simp; omega)
        clear hx9 hk9
        obtain ⟨⟨t0, t1, -⟩, ⟨d0, d1⟩, k0, k1⟩ := id hy
        obtain ⟨⟨s0, s1, -⟩, ⟨z0, z1⟩, f0, f1⟩ := id hx
        have hX := hx.other1 hne t1 (.int .i64 b)
        obtain ⟨-, ⟨d2, d3⟩, -⟩ := hy.put1 (.int .i64 b)
        obtain ⟨-, ⟨e0, e1⟩, -⟩ := hX.put (.int .i64 xa) (.int .i64 b)
        unfold put2 at e0 e1
        have hr9 := (hr9.put1 hy (.int .i64 b)).put2 hX (.int .i64 xa) (.int .i64 b)
        have hK := (hK.setCell w2.heap.size 1 hle (.int .i64 b)).put2 (Nat.le_refl _) (.int .i64 xa) (.int .i64 b)
        clear hX hx hy
        go_wp2
        (try simp only [Exit.inBlock, Exit.then])
        exact bodyPost_ret (v := .agg #[.int .i64 xa, .int .i64 b]) (by simp [results, Try.results103, go_sem, e0, e1]) rfl ⟨_, _, rfl, ⟨_, by omega, hr9⟩, hK⟩
  · have z0 : (x3 == 0) = false := by simp; omega
    have z1 : (x3 == 1) = false := by simp; omega
    have z2 : (x3 == 2) = false := by simp; omega
    go_wp2_with fail
    have hr6 := hr3
    refine (odd_any _ _ _ _ hr6 (by omega) (by omega)).mono ?_
    rintro e w8 ⟨x8, rfl, ⟨q8, hq8, hr8⟩, hk8⟩
    have hx := hx.keep hk8
    have hy := hy.keep hk8
    have hK := hK.trans hk8
    clear hk8 hr6
    cases x8
    · obtain ⟨⟨t0, t1, -⟩, ⟨d0, d1⟩, k0, k1⟩ := id hy
      obtain ⟨⟨s0, s1, -⟩, ⟨z0, z1⟩, f0, f1⟩ := id hx
      obtain ⟨-, ⟨e0, e1⟩, -⟩ := hx.put (.int .i64 ((x1-128)*8589934592)) (.int .i64 ((x2-128)*8589934592))
      unfold put2 at e0 e1
      go_wp2
      (try simp only [Exit.inBlock, Exit.then])
      exact bodyPost_ret (v := .agg #[.int .i64 ((x1-128)*8589934592), .int .i64 ((x2-128)*8589934592)]) (by simp [results, Try.results103, go_sem, e0, e1]) rfl ⟨_, _, rfl, ⟨_, by omega, hr8.put2 hx (.int .i64 ((x1-128)*8589934592)) (.int .i64 ((x2-128)*8589934592))⟩, hK.put2 (Nat.le_refl _) (.int .i64 ((x1-128)*8589934592)) (.int .i64 ((x2-128)*8589934592))⟩
    · go_wp2_with fail
      refine (pick_any _ _ _ _ (hr8.alloc _) (by omega)).mono ?_
      rintro e w9 ⟨x9, rfl, hx9, hr9, hk9⟩
      have g9 := hx9 (by omega)
      have hx := (hx.alloc _).keep hk9
      have hy := (hy.alloc _).keep hk9
      have hK := (hK.alloc _).trans hk9
      obtain ⟨b, c9⟩ := hk9.row hr8.1 rfl x9.toNat (by simp; omega)
      clear hx9 hk9
      obtain ⟨⟨t0, t1, -⟩, ⟨d0, d1⟩, k0, k1⟩ := id hy
      obtain ⟨⟨s0, s1, -⟩, ⟨z0, z1⟩, f0, f1⟩ := id hx
      have hX := hx.other1 hne t1 (.int .i64 b)
      obtain ⟨-, ⟨d2, d3⟩, -⟩ := hy.put1 (.int .i64 b)
      obtain ⟨-, ⟨e0, e1⟩, -⟩ := hX.put (.int .i64 ((x1-128)*8589934592)) (.int .i64 b)
      unfold put2 at e0 e1
      have hr9 := (hr9.put1 hy (.int .i64 b)).put2 hX (.int .i64 ((x1-128)*8589934592)) (.int .i64 b)
      have hK := (hK.setCell w2.heap.size 1 hle (.int .i64 b)).put2 (Nat.le_refl _) (.int .i64 ((x1-128)*8589934592)) (.int .i64 b)
      clear hX hx hy
      go_wp2
      (try simp only [Exit.inBlock, Exit.then])
      exact bodyPost_ret (v := .agg #[.int .i64 ((x1-128)*8589934592), .int .i64 b]) (by simp [results, Try.results103, go_sem, e0, e1]) rfl ⟨_, _, rfl, ⟨_, by omega, hr9⟩, hK⟩

end Go.Proofs.Ytmjmafgjejphbaa
