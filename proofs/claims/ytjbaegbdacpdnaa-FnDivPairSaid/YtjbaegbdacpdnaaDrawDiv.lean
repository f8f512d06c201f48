/-
  The draws of two numbers for quotients.
-/
import Derived.Test.YtjbaegbdacpdnaaKinds
namespace Go.Proofs.Ytjbaegbdacpdnaa
open Go.RowKit

def kindsDiv (S : List Nat) (B : Nat) : Nat → Value → World → Prop
  | 0, v, _ => IsRd B v
  | 1, v, _ => NumIn 0 11 v
  | 2, v, _ => NumIn 1 12 v
  | 3, v, _ => IsRd B v
  | 4, v, _ => NumIn 0 19 v
  | 5, v, _ => IsNum v
  | 6, v, _ => IsRd B v
  | 7, v, _ => IsNum v
  | 8, v, _ => IsNum v
  | 9, v, w => RowNum S 5 v w
  | 10, v, w => RowIn S 7 0 4 v w
  | 11, v, _ => IsRd B v
  | 12, v, _ => NumIn 0 6 v
  | 13, v, w => AtIn S 0 4 v w
  | 14, v, _ => NumIn 0 4 v
  | 15, v, w => AtNum S v w
  | 16, v, _ => IsNum v
  | 17, v, _ => IsNum v
  | _, _, _ => True
theorem kindsDiv_keep (S : List Nat) (B j : Nat) (v : Value) (w w' : World) (h : kindsDiv S B j v w) (k : KeptS S w w') : kindsDiv S B j v w' := by
  unfold kindsDiv at *
  split at h <;> first | exact h | exact h.keep k

set_option maxHeartbeats 4000000 in
theorem drawFloorDiv_any (a : Option Addr) (len cap : Nat) (zs : Nat → Int) (w : World) (h : Row8 w w.heap.size a len cap zs) :
    Calls Try.prog 38 #[.slice a len cap] w (Drew2 w) := by
  have H := Lib.hid h
  clear h
  go_enter Try.func38, Try.ntmps38
  go_wp2_with (first | (go_at_call 66; refine (l20Open_any _ _ _ _ _ H.out).mono ?_; rintro e w1 ⟨rfl, hr, hk⟩) | (go_at_call 79; refine (l20Work_any _ _ _ (by assumption) ?_).mono ?_; (omega); rintro e w2 ⟨x, rfl, ⟨q, hq, hr2⟩, hk2⟩))
  have hW := (hk.trans hk2).below (Nat.le_refl _) (Nat.le_refl _)
  have hX := stays_true w.heap.size
  have hB : w.heap.size ∈ [w.heap.size] := by simp
  have hs2 : ∀ s ∈ [w.heap.size], s < w2.heap.size := by have := hr2.1; simpa using this
  refine Fxr.wp_region_typed (kindsDiv [w.heap.size] w.heap.size) (Reads [w.heap.size] w2 w.heap.size q (fun _ => True)) (KeptS [w.heap.size]) (by kernel_rfl) (by kernel_rfl) (by kernel_rfl) rfl (kindsDiv_keep _ _) ⟨⟨q, by omega, hr2⟩, (KeptS.refl _ _).drewN 1, hs2, trivial⟩ ?_ ?_
  ·
    clear hW hk hk2 hr hr2 hs2
    refine ⟨?_, ?_, ?_, ?_, ?_, ?_, ?_, ?_, ?_, ?_, ?_, ?_, ?_, ?_, ?_, ?_, ?_, ?_, trivial⟩
    · intro a wr k hk hl hR hd hold
      have d4 : a.tmps.getD 4 undef = .pointer (some ⟨_, 0, none⟩) := hl.rest 4 (not_dst rfl)
      refine wpOp_at _ rfl rfl ?_
      have f4 := getD_form d4
      clear hl hd hold hk
      go_simp
      exact ⟨_, rfl, rfl, hR.next, KeptS.refl _ _⟩
    · intro a wr k hk hl hR hd hold
      have d11 : a.tmps.getD 11 undef = .pointer (some ⟨_, 0, none⟩) := hd ⟨0, .data⟩ (by simp) rfl
      refine wpOp_at _ rfl rfl ?_
      have f11 := getD_form d11
      obtain ⟨q0, hq0, hr0⟩ := hR.reader
      have hk0 : k < 18 := hk
      clear hl hd hold hk
      go_simp
      refine (pick_any _ _ _ _ hr0 (by omega)).mono ?_
      rintro e w1 ⟨x, rfl, hx, hr1, hk1⟩
      have hx1 := hx (by omega)
      exact ⟨_, rfl, ⟨x, rfl, hx1.1, by omega⟩, hR.gone hX hB (by omega) hr1 hk1, hk1.toS hB⟩
    · intro a wr k hk hl hR hd hold
      obtain ⟨x12, d12, l12, u12⟩ : NumIn 0 11 (a.tmps.getD 12 undef) := hd ⟨1, .data⟩ (by simp) rfl
      refine wpOp_at _ rfl rfl ?_
      have f12 := getD_form d12
      clear hl hd hold hk
      go_simp
      exact ⟨_, rfl, ⟨_, rfl, by rw [IntWalk.i64_in _ (by omega)]; omega, by rw [IntWalk.i64_in _ (by omega)]; omega⟩, hR.next, KeptS.refl _ _⟩
    · intro a wr k hk hl hR hd hold
      have d4 : a.tmps.getD 4 undef = .pointer (some ⟨_, 0, none⟩) := hl.rest 4 (not_dst rfl)
      refine wpOp_at _ rfl rfl ?_
      have f4 := getD_form d4
      clear hl hd hold hk
      go_simp
      exact ⟨_, rfl, rfl, hR.next, KeptS.refl _ _⟩
    · intro a wr k hk hl hR hd hold
      have d14 : a.tmps.getD 14 undef = .pointer (some ⟨_, 0, none⟩) := hd ⟨3, .data⟩ (by simp) rfl
      refine wpOp_at _ rfl rfl ?_
      have f14 := getD_form d14
      obtain ⟨q0, hq0, hr0⟩ := hR.reader
      have hk0 : k < 18 := hk
      clear hl hd hold hk
      go_simp
      refine (pick_any _ _ _ _ hr0 (by omega)).mono ?_
      rintro e w1 ⟨x, rfl, hx, hr1, hk1⟩
      have hx1 := hx (by omega)
      exact ⟨_, rfl, ⟨x, rfl, hx1.1, by omega⟩, hR.gone hX hB (by omega) hr1 hk1, hk1.toS hB⟩
    · intro a wr k hk hl hR hd hold
      obtain ⟨x15, d15, l15, u15⟩ : NumIn 0 19 (a.tmps.getD 15 undef) := hd ⟨4, .data⟩ (by simp) rfl
      refine wpOp_at _ rfl rfl ?_
      have f15 := getD_form d15
      clear hl hd hold hk
      go_simp
      exact ⟨_, rfl, ⟨_, rfl⟩, hR.next, KeptS.refl _ _⟩
    · intro a wr k hk hl hR hd hold
      have d4 : a.tmps.getD 4 undef = .pointer (some ⟨_, 0, none⟩) := hl.rest 4 (not_dst rfl)
      refine wpOp_at _ rfl rfl ?_
      have f4 := getD_form d4
      clear hl hd hold hk
      go_simp
      exact ⟨_, rfl, rfl, hR.next, KeptS.refl _ _⟩
    · intro a wr k hk hl hR hd hold
      have d17 : a.tmps.getD 17 undef = .pointer (some ⟨_, 0, none⟩) := hd ⟨6, .data⟩ (by simp) rfl
      refine wpOp_at _ rfl rfl ?_
      have f17 := getD_form d17
      obtain ⟨q0, hq0, hr0⟩ := hR.reader
      have hk0 : k < 18 := hk
      clear hl hd hold hk
      go_simp
      refine (l20Work_any _ _ _ hr0 (by omega)).mono ?_
      rintro e w1 ⟨x, rfl, ⟨q1, hq1, hr1⟩, hk1⟩
      exact ⟨_, rfl, ⟨x, rfl⟩, hR.gone hX hB (by omega) hr1 hk1, hk1.toS hB⟩
    · intro a wr k hk hl hR hd hold
      obtain ⟨x18, d18⟩ : IsNum (a.tmps.getD 18 undef) := hd ⟨7, .data⟩ (by simp) rfl
      refine wpOp_at _ rfl rfl ?_
      have f18 := getD_form d18
      clear hl hd hold hk
      go_simp
      split <;> exact ⟨_, rfl, ⟨_, rfl⟩, hR.next, KeptS.refl _ _⟩
    · intro a wr k hk hl hR hd hold
      obtain ⟨x13, d13, l13, u13⟩ : NumIn 1 12 (a.tmps.getD 13 undef) := hd ⟨2, .data⟩ (by simp) rfl
      obtain ⟨x16, d16⟩ : IsNum (a.tmps.getD 16 undef) := hd ⟨5, .data⟩ (by simp) rfl
      obtain ⟨x19, d19⟩ : IsNum (a.tmps.getD 19 undef) := hd ⟨8, .data⟩ (by simp) rfl
      refine wpOp_at _ rfl rfl ?_
      have f13 := getD_form d13
      have f16 := getD_form d16
      have f19 := getD_form d19
      clear hl hd hold hk
      go_simp
      exact ⟨_, rfl, RowNum.made hR.fresh _ _ 5 rfl rfl, hR.alloc hX _, (KeptS.refl _ _).alloc _⟩
    · intro a wr k hk hl hR hd hold
      refine wpOp_at _ rfl rfl ?_
      clear hl hd hold hk
      go_simp
      exact ⟨_, rfl, RowIn.made hR.fresh _ _ 7 0 4 rfl rfl, hR.alloc hX _, (KeptS.refl _ _).alloc _⟩
    · intro a wr k hk hl hR hd hold
      have d4 : a.tmps.getD 4 undef = .pointer (some ⟨_, 0, none⟩) := hl.rest 4 (not_dst rfl)
      refine wpOp_at _ rfl rfl ?_
      have f4 := getD_form d4
      clear hl hd hold hk
      go_simp
      exact ⟨_, rfl, rfl, hR.next, KeptS.refl _ _⟩
    · intro a wr k hk hl hR hd hold
      have d22 : a.tmps.getD 22 undef = .pointer (some ⟨_, 0, none⟩) := hd ⟨11, .data⟩ (by simp) rfl
      refine wpOp_at _ rfl rfl ?_
      have f22 := getD_form d22
      obtain ⟨q0, hq0, hr0⟩ := hR.reader
      have hk0 : k < 18 := hk
      clear hl hd hold hk
      go_simp
      refine (pick_any _ _ _ _ hr0 (by omega)).mono ?_
      rintro e w1 ⟨x, rfl, hx, hr1, hk1⟩
      have hx1 := hx (by omega)
      exact ⟨_, rfl, ⟨x, rfl, hx1.1, by omega⟩, hR.gone hX hB (by omega) hr1 hk1, hk1.toS hB⟩
    · intro a wr k hk hl hR hd hold
      obtain ⟨b21, d21, n21, s21, c21⟩ : RowIn _ 7 0 4 (a.tmps.getD 21 undef) wr := hd ⟨10, .data⟩ (by simp) rfl
      obtain ⟨x23, d23, l23, u23⟩ : NumIn 0 6 (a.tmps.getD 23 undef) := hd ⟨12, .data⟩ (by simp) rfl
      refine wpOp_at _ rfl rfl ?_
      have f21 := getD_form d21
      have f23 := getD_form d23
      have z23 : 0 ≤ x23 ∧ x23 < 7 := ⟨by omega, by omega⟩
      clear hl hd hold hk
      have C21 := Lib.hid c21
      clear c21
      go_simp
      exact ⟨_, rfl, row_in n21 s21 C21.out z23, hR.next, KeptS.refl _ _⟩
    · intro a wr k hk hl hR hd hold
      obtain ⟨b24, i24, d24, n24, s24, y24, c24, l24, u24⟩ : AtIn _ 0 4 (a.tmps.getD 24 undef) wr := hd ⟨13, .data⟩ (by simp) rfl
      refine wpOp_at _ rfl rfl ?_
      have f24 := getD_form d24
      clear hl hd hold hk
      go_simp
      exact ⟨_, rfl, ⟨_, rfl, l24, u24⟩, hR.next, KeptS.refl _ _⟩
    · intro a wr k hk hl hR hd hold
      obtain ⟨b20, d20, n20, s20, c20⟩ : RowNum _ 5 (a.tmps.getD 20 undef) wr := hd ⟨9, .data⟩ (by simp) rfl
      obtain ⟨x25, d25, l25, u25⟩ : NumIn 0 4 (a.tmps.getD 25 undef) := hd ⟨14, .data⟩ (by simp) rfl
      refine wpOp_at _ rfl rfl ?_
      have f20 := getD_form d20
      have f25 := getD_form d25
      have z25 : 0 ≤ x25 ∧ x25 < 5 := ⟨by omega, by omega⟩
      clear hl hd hold hk
      have C20 := Lib.hid c20
      clear c20
      go_simp
      exact ⟨_, rfl, row_num n20 s20 C20.out z25, hR.next, KeptS.refl _ _⟩
    · intro a wr k hk hl hR hd hold
      obtain ⟨b26, i26, d26, n26, s26, y26, c26⟩ : AtNum _ (a.tmps.getD 26 undef) wr := hd ⟨15, .data⟩ (by simp) rfl
      refine wpOp_at _ rfl rfl ?_
      have f26 := getD_form d26
      clear hl hd hold hk
      go_simp
      exact ⟨_, rfl, ⟨_, rfl⟩, hR.next, KeptS.refl _ _⟩
    · intro a wr k hk hl hR hd hold
      obtain ⟨x27, d27⟩ : IsNum (a.tmps.getD 27 undef) := hd ⟨16, .data⟩ (by simp) rfl
      refine wpOp_at _ rfl rfl ?_
      have f27 := getD_form d27
      clear hl hd hold hk
      go_simp
      exact ⟨_, rfl, ⟨_, rfl⟩, hR.next, KeptS.refl _ _⟩
  ·
    intro a wr k hk0 hl hR hT
    obtain ⟨x6, d6⟩ : IsNum (a.tmps.getD 6 undef) := hT 17 (by decide)
    have d11 : a.tmps.getD 11 undef = .pointer (some ⟨_, 0, none⟩) := hT 0 (by decide)
    obtain ⟨x12, d12, l12, u12⟩ : NumIn 0 11 (a.tmps.getD 12 undef) := hT 1 (by decide)
    obtain ⟨x13, d13, l13, u13⟩ : NumIn 1 12 (a.tmps.getD 13 undef) := hT 2 (by decide)
    have d14 : a.tmps.getD 14 undef = .pointer (some ⟨_, 0, none⟩) := hT 3 (by decide)
    obtain ⟨x15, d15, l15, u15⟩ : NumIn 0 19 (a.tmps.getD 15 undef) := hT 4 (by decide)
    obtain ⟨x16, d16⟩ : IsNum (a.tmps.getD 16 undef) := hT 5 (by decide)
    have d17 : a.tmps.getD 17 undef = .pointer (some ⟨_, 0, none⟩) := hT 6 (by decide)
    obtain ⟨x18, d18⟩ : IsNum (a.tmps.getD 18 undef) := hT 7 (by decide)
    obtain ⟨x19, d19⟩ : IsNum (a.tmps.getD 19 undef) := hT 8 (by decide)
    obtain ⟨b20, d20, -⟩ : RowNum _ 5 (a.tmps.getD 20 undef) wr := hT 9 (by decide)
    obtain ⟨b21, d21, -⟩ : RowIn _ 7 0 4 (a.tmps.getD 21 undef) wr := hT 10 (by decide)
    have d22 : a.tmps.getD 22 undef = .pointer (some ⟨_, 0, none⟩) := hT 11 (by decide)
    obtain ⟨x23, d23, l23, u23⟩ : NumIn 0 6 (a.tmps.getD 23 undef) := hT 12 (by decide)
    obtain ⟨b24, i24, d24, -⟩ : AtIn _ 0 4 (a.tmps.getD 24 undef) wr := hT 13 (by decide)
    obtain ⟨x25, d25, l25, u25⟩ : NumIn 0 4 (a.tmps.getD 25 undef) := hT 14 (by decide)
    obtain ⟨b26, i26, d26, -⟩ : AtNum _ (a.tmps.getD 26 undef) wr := hT 15 (by decide)
    obtain ⟨x27, d27⟩ : IsNum (a.tmps.getD 27 undef) := hT 16 (by decide)
    have ea := Fxr.act_ext a [_, _, _, _, _, _, _, _, _, _, _, _, _, _, _, _, _, _, _, _, _, _, _, _, _, _, _, _, _, _, _, _, _, _, _, _, _] hl.defers (by exact hl.size) ⟨hl.rest 0 (not_dst rfl), hl.rest 1 (not_dst rfl), hl.rest 2 (not_dst rfl), hl.rest 3 (not_dst rfl), hl.rest 4 (not_dst rfl), hl.rest 5 (not_dst rfl), d6, hl.rest 7 (not_dst rfl), hl.rest 8 (not_dst rfl), hl.rest 9 (not_dst rfl), hl.rest 10 (not_dst rfl), d11, d12, d13, d14, d15, d16, d17, d18, d19, d20, d21, d22, d23, d24, d25, d26, d27, hl.rest 28 (not_dst rfl), hl.rest 29 (not_dst rfl), hl.rest 30 (not_dst rfl), hl.rest 31 (not_dst rfl), hl.rest 32 (not_dst rfl), hl.rest 33 (not_dst rfl), hl.rest 34 (not_dst rfl), hl.rest 35 (not_dst rfl), hl.rest 36 (not_dst rfl), trivial⟩
    clear hT hl
    subst ea
    have hb := hW.trans (hR.kept.below (C := w.heap.size) (by simp) (by have := hr2.1; omega))
    obtain ⟨q3, hq3, hr3⟩ := hR.reader
    have hk3 : k ≤ 18 := hk0
    clear hR hk0 hr hr2 hs2 hk hk2
    go_wp2_with (go_at_call 82; refine (odd_any _ _ _ _ hr3 (by omega) (by omega)).mono ?_; rintro e w4 ⟨y, rfl, ⟨q4, hq4, hr4⟩, hk4⟩)
    · refine (pick_any _ _ _ _ (hr4.alloc _) (by omega)).mono ?_
      rintro e w5 ⟨z, rfl, hz, hr5, hk5⟩
      have hz1 := hz (by omega)
      have hB4 : w.heap.size < w4.heap.size := hr4.1
      obtain ⟨u, c1⟩ := hk5.row hB4 rfl z.toNat (by simp; omega)
      clear hz
      go_wp2
      go_ret2
      exact ⟨_, _, rfl, hb.trans (((hk4.alloc _).trans hk5).below (Nat.le_refl _) (by have := hr3.1; omega))⟩
    · go_wp2
      go_ret2
      exact ⟨_, _, rfl, hb.trans (hk4.below (Nat.le_refl _) (by have := hr3.1; omega))⟩

set_option maxHeartbeats 1000000 in
theorem drawRoundDiv_any (a : Option Addr) (len cap : Nat) (zs : Nat → Int) (w : World) (h : Row8 w w.heap.size a len cap zs) :
    Calls Try.prog 46 #[.slice a len cap] w (Drew2 w) := by
  have H := Lib.hid h
  clear h
  go_enter Try.func46, Try.ntmps46
  go_wp2_with (first | (go_at_call 66; refine (l20Open_any _ _ _ _ _ H.out).mono ?_; rintro e w1 ⟨rfl, hr, hk⟩) | (go_at_call 80; refine (pick_any _ _ _ _ (by assumption) ?_).mono ?_; (omega); rintro e w1 ⟨x, rfl, hx, hr, hk1⟩; (have hx1 := hx (by omega)); (have hk := Kept.trans (a := w) (by assumption) hk1); clear hx hk1))
  · go_ret2
    exact ⟨_, _, rfl, hk.below (Nat.le_refl _) (Nat.le_refl _)⟩
  · have hw := hk.below (Nat.le_refl _) (Nat.le_refl _)
    refine (drawFloorDiv_any _ _ _ _ _ (H.out.keep hw)).mono ?_
    rintro e w3 ⟨x, y, rfl, hb⟩
    have hb3 := hw.trans (hb.mono hw.size)
    clear hb
    go_wp2
    go_ret2
    exact ⟨_, _, rfl, hb3⟩

end Go.Proofs.Ytjbaegbdacpdnaa
