/-
  The draw of a number and a shift.
-/
import Derived.Test.YtjbaegbdacpdnaaKinds
namespace Go.Proofs.Ytjbaegbdacpdnaa
open Go.RowKit

def kindsShift (S : List Nat) (B : Nat) : Nat → Value → World → Prop
  | 0, v, _ => IsNum v
  | 1, v, _ => IsRd B v
  | 2, v, _ => NumIn 0 11 v
  | 3, v, _ => IsRd B v
  | 4, v, _ => NumIn 0 60 v
  | 5, v, w => RowNum S 5 v w
  | 6, v, w => RowIn S 8 0 4 v w
  | 7, v, _ => IsRd B v
  | 8, v, _ => NumIn 0 7 v
  | 9, v, w => AtIn S 0 4 v w
  | 10, v, _ => NumIn 0 4 v
  | 11, v, w => AtNum S v w
  | 12, v, _ => IsNum v
  | 13, v, _ => IsNum v
  | 14, v, _ => IsNum v
  | _, _, _ => True
theorem kindsShift_keep (S : List Nat) (B j : Nat) (v : Value) (w w' : World) (h : kindsShift S B j v w) (k : KeptS S w w') : kindsShift S B j v w' := by
  unfold kindsShift at *
  split at h <;> first | exact h | exact h.keep k

set_option maxHeartbeats 4000000 in
theorem drawFloorShift_any (a : Option Addr) (len cap : Nat) (zs : Nat → Int) (w : World) (h : Row8 w w.heap.size a len cap zs) :
    Calls Try.prog 34 #[.slice a len cap] w (Drew2 w) := by
  have H := Lib.hid h
  clear h
  go_enter Try.func34, Try.ntmps34
  go_wp2_with (first | (go_at_call 66; refine (l20Open_any _ _ _ _ _ H.out).mono ?_; rintro e w1 ⟨rfl, hr, hk⟩) | (go_at_call 79; refine (l20Work_any _ _ _ (by assumption) ?_).mono ?_; (omega); rintro e w2 ⟨x, rfl, ⟨q, hq, hr2⟩, hk2⟩))
  have hW := (hk.trans hk2).below (Nat.le_refl _) (Nat.le_refl _)
  have hX := stays_true w.heap.size
  have hB : w.heap.size ∈ [w.heap.size] := by simp
  have hs2 : ∀ s ∈ [w.heap.size], s < w2.heap.size := by have := hr2.1; simpa using this
  refine Fxr.wp_region_typed (kindsShift [w.heap.size] w.heap.size) (Reads [w.heap.size] w2 w.heap.size q (fun _ => True)) (KeptS [w.heap.size]) (by kernel_rfl) (by kernel_rfl) (by kernel_rfl) rfl (kindsShift_keep _ _) ⟨⟨q, by omega, hr2⟩, (KeptS.refl _ _).drewN 1, hs2, trivial⟩ ?_ ?_
  · clear hW hk hk2 hr hr2 hs2
    refine ⟨?_, ?_, ?_, ?_, ?_, ?_, ?_, ?_, ?_, ?_, ?_, ?_, ?_, ?_, ?_, trivial⟩
    · intro a wr k hk hl hR hd hold
      have d5 : a.tmps.getD 5 undef = .int .i64 x := hl.rest 5 (not_dst rfl)
      refine wpOp_at _ rfl rfl ?_
      have f5 := getD_form d5
      clear hl hd hold hk
      go_simp
      exact ⟨_, rfl, ⟨_, rfl⟩, hR.next, KeptS.refl _ _⟩
    · intro a wr k hk hl hR hd hold
      have d4 : a.tmps.getD 4 undef = .pointer (some ⟨_, 0, none⟩) := hl.rest 4 (not_dst rfl)
      refine wpOp_at _ rfl rfl ?_
      have f4 := getD_form d4
      clear hl hd hold hk
      go_simp
      exact ⟨_, rfl, rfl, hR.next, KeptS.refl _ _⟩
    · intro a wr k hk hl hR hd hold
      have d11 : a.tmps.getD 11 undef = .pointer (some ⟨_, 0, none⟩) := hd ⟨1, .data⟩ (by simp) rfl
      refine wpOp_at _ rfl rfl ?_
      have f11 := getD_form d11
      obtain ⟨q0, hq0, hr0⟩ := hR.reader
      have hk0 : k < 15 := hk
      clear hl hd hold hk
      go_simp
      refine (pick_any _ _ _ _ hr0 (by omega)).mono ?_
      rintro e w1 ⟨x, rfl, hx, hr1, hk1⟩
      have hx1 := hx (by omega)
      exact ⟨_, rfl, ⟨x, rfl, hx1.1, by omega⟩, hR.gone hX hB (by omega) hr1 hk1, hk1.toS hB⟩
    · intro a wr k hk hl hR hd hold
      have d4 : a.tmps.getD 4 undef = .pointer (some ⟨_, 0, none⟩) := hl.rest 4 (not_dst rfl)
      refine wpOp_at _ rfl rfl ?_
      have f4 := getD_form d4
      clear hl hd hold hk
      go_simp
      exact ⟨_, rfl, rfl, hR.next, KeptS.refl _ _⟩
    · intro a wr k hk hl hR hd hold
      have d13 : a.tmps.getD 13 undef = .pointer (some ⟨_, 0, none⟩) := hd ⟨3, .data⟩ (by simp) rfl
      refine wpOp_at _ rfl rfl ?_
      have f13 := getD_form d13
      obtain ⟨q0, hq0, hr0⟩ := hR.reader
      have hk0 : k < 15 := hk
      clear hl hd hold hk
      go_simp
      refine (pick_any _ _ _ _ hr0 (by omega)).mono ?_
      rintro e w1 ⟨x, rfl, hx, hr1, hk1⟩
      have hx1 := hx (by omega)
      exact ⟨_, rfl, ⟨x, rfl, hx1.1, by omega⟩, hR.gone hX hB (by omega) hr1 hk1, hk1.toS hB⟩
    · intro a wr k hk hl hR hd hold
      obtain ⟨x12, d12, l12, u12⟩ : NumIn 0 11 (a.tmps.getD 12 undef) := hd ⟨2, .data⟩ (by simp) rfl
      obtain ⟨x14, d14, l14, u14⟩ : NumIn 0 60 (a.tmps.getD 14 undef) := hd ⟨4, .data⟩ (by simp) rfl
      refine wpOp_at _ rfl rfl ?_
      have f12 := getD_form d12
      have f14 := getD_form d14
      clear hl hd hold hk
      go_simp
      exact ⟨_, rfl, RowNum.made hR.fresh _ _ 5 rfl rfl, hR.alloc hX _, (KeptS.refl _ _).alloc _⟩
    · intro a wr k hk hl hR hd hold
      refine wpOp_at _ rfl rfl ?_
      clear hl hd hold hk
      go_simp
      exact ⟨_, rfl, RowIn.made hR.fresh _ _ 8 0 4 rfl rfl, hR.alloc hX _, (KeptS.refl _ _).alloc _⟩
    · intro a wr k hk hl hR hd hold
      have d4 : a.tmps.getD 4 undef = .pointer (some ⟨_, 0, none⟩) := hl.rest 4 (not_dst rfl)
      refine wpOp_at _ rfl rfl ?_
      have f4 := getD_form d4
      clear hl hd hold hk
      go_simp
      exact ⟨_, rfl, rfl, hR.next, KeptS.refl _ _⟩
    · intro a wr k hk hl hR hd hold
      have d17 : a.tmps.getD 17 undef = .pointer (some ⟨_, 0, none⟩) := hd ⟨7, .data⟩ (by simp) rfl
      refine wpOp_at _ rfl rfl ?_
      have f17 := getD_form d17
      obtain ⟨q0, hq0, hr0⟩ := hR.reader
      have hk0 : k < 15 := hk
      clear hl hd hold hk
      go_simp
      refine (pick_any _ _ _ _ hr0 (by omega)).mono ?_
      rintro e w1 ⟨x, rfl, hx, hr1, hk1⟩
      have hx1 := hx (by omega)
      exact ⟨_, rfl, ⟨x, rfl, hx1.1, by omega⟩, hR.gone hX hB (by omega) hr1 hk1, hk1.toS hB⟩
    · intro a wr k hk hl hR hd hold
      obtain ⟨b16, d16, n16, s16, c16⟩ : RowIn _ 8 0 4 (a.tmps.getD 16 undef) wr := hd ⟨6, .data⟩ (by simp) rfl
      obtain ⟨x18, d18, l18, u18⟩ : NumIn 0 7 (a.tmps.getD 18 undef) := hd ⟨8, .data⟩ (by simp) rfl
      refine wpOp_at _ rfl rfl ?_
      have f16 := getD_form d16
      have f18 := getD_form d18
      have z18 : 0 ≤ x18 ∧ x18 < 8 := ⟨by omega, by omega⟩
      clear hl hd hold hk
      have C16 := Lib.hid c16
      clear c16
      go_simp
      exact ⟨_, rfl, row_in n16 s16 C16.out z18, hR.next, KeptS.refl _ _⟩
    · intro a wr k hk hl hR hd hold
      obtain ⟨b19, i19, d19, n19, s19, y19, c19, l19, u19⟩ : AtIn _ 0 4 (a.tmps.getD 19 undef) wr := hd ⟨9, .data⟩ (by simp) rfl
      refine wpOp_at _ rfl rfl ?_
      have f19 := getD_form d19
      clear hl hd hold hk
      go_simp
      exact ⟨_, rfl, ⟨_, rfl, l19, u19⟩, hR.next, KeptS.refl _ _⟩
    · intro a wr k hk hl hR hd hold
      obtain ⟨b15, d15, n15, s15, c15⟩ : RowNum _ 5 (a.tmps.getD 15 undef) wr := hd ⟨5, .data⟩ (by simp) rfl
      obtain ⟨x20, d20, l20, u20⟩ : NumIn 0 4 (a.tmps.getD 20 undef) := hd ⟨10, .data⟩ (by simp) rfl
      refine wpOp_at _ rfl rfl ?_
      have f15 := getD_form d15
      have f20 := getD_form d20
      have z20 : 0 ≤ x20 ∧ x20 < 5 := ⟨by omega, by omega⟩
      clear hl hd hold hk
      have C15 := Lib.hid c15
      clear c15
      go_simp
      exact ⟨_, rfl, row_num n15 s15 C15.out z20, hR.next, KeptS.refl _ _⟩
    · intro a wr k hk hl hR hd hold
      obtain ⟨b21, i21, d21, n21, s21, y21, c21⟩ : AtNum _ (a.tmps.getD 21 undef) wr := hd ⟨11, .data⟩ (by simp) rfl
      refine wpOp_at _ rfl rfl ?_
      have f21 := getD_form d21
      clear hl hd hold hk
      go_simp
      exact ⟨_, rfl, ⟨_, rfl⟩, hR.next, KeptS.refl _ _⟩
    · intro a wr k hk hl hR hd hold
      obtain ⟨x10, d10⟩ : IsNum (a.tmps.getD 10 undef) := hd ⟨0, .data⟩ (by simp) rfl
      refine wpOp_at _ rfl rfl ?_
      have f10 := getD_form d10
      clear hl hd hold hk
      go_simp
      exact ⟨_, rfl, ⟨_, rfl⟩, hR.next, KeptS.refl _ _⟩
    · intro a wr k hk hl hR hd hold
      obtain ⟨x22, d22⟩ : IsNum (a.tmps.getD 22 undef) := hd ⟨12, .data⟩ (by simp) rfl
      refine wpOp_at _ rfl rfl ?_
      have f22 := getD_form d22
      clear hl hd hold hk
      go_simp
      exact ⟨_, rfl, ⟨_, rfl⟩, hR.next, KeptS.refl _ _⟩
  ·
    intro a wr k hk hl hR hT
    obtain ⟨x2, d2⟩ : IsNum (a.tmps.getD 2 undef) := hT 13 (by decide)
    obtain ⟨x3, d3⟩ : IsNum (a.tmps.getD 3 undef) := hT 14 (by decide)
    obtain ⟨x10, d10⟩ : IsNum (a.tmps.getD 10 undef) := hT 0 (by decide)
    have d11 : a.tmps.getD 11 undef = .pointer (some ⟨_, 0, none⟩) := hT 1 (by decide)
    obtain ⟨x12, d12, l12, u12⟩ : NumIn 0 11 (a.tmps.getD 12 undef) := hT 2 (by decide)
    have d13 : a.tmps.getD 13 undef = .pointer (some ⟨_, 0, none⟩) := hT 3 (by decide)
    obtain ⟨x14, d14, l14, u14⟩ : NumIn 0 60 (a.tmps.getD 14 undef) := hT 4 (by decide)
    obtain ⟨b15, d15, -⟩ : RowNum _ 5 (a.tmps.getD 15 undef) wr := hT 5 (by decide)
    obtain ⟨b16, d16, -⟩ : RowIn _ 8 0 4 (a.tmps.getD 16 undef) wr := hT 6 (by decide)
    have d17 : a.tmps.getD 17 undef = .pointer (some ⟨_, 0, none⟩) := hT 7 (by decide)
    obtain ⟨x18, d18, l18, u18⟩ : NumIn 0 7 (a.tmps.getD 18 undef) := hT 8 (by decide)
    obtain ⟨b19, i19, d19, -⟩ : AtIn _ 0 4 (a.tmps.getD 19 undef) wr := hT 9 (by decide)
    obtain ⟨x20, d20, l20, u20⟩ : NumIn 0 4 (a.tmps.getD 20 undef) := hT 10 (by decide)
    obtain ⟨b21, i21, d21, -⟩ : AtNum _ (a.tmps.getD 21 undef) wr := hT 11 (by decide)
    obtain ⟨x22, d22⟩ : IsNum (a.tmps.getD 22 undef) := hT 12 (by decide)
    have ea := Fxr.act_ext a [_, _, _, _, _, _, _, _, _, _, _, _, _, _, _, _, _, _, _, _, _, _, _] hl.defers (by exact hl.size) ⟨hl.rest 0 (not_dst rfl), hl.rest 1 (not_dst rfl), d2, d3, hl.rest 4 (not_dst rfl), hl.rest 5 (not_dst rfl), hl.rest 6 (not_dst rfl), hl.rest 7 (not_dst rfl), hl.rest 8 (not_dst rfl), hl.rest 9 (not_dst rfl), d10, d11, d12, d13, d14, d15, d16, d17, d18, d19, d20, d21, d22, trivial⟩
    clear hT hl hk
    subst ea
    have hb := hW.trans (hR.kept.below (C := w.heap.size) (by simp) (by have := hr2.1; omega))
    clear hR
    go_wp2
    go_ret2
    exact ⟨_, _, rfl, hb⟩

set_option maxHeartbeats 400000 in
theorem drawRoundShift_any (a : Option Addr) (len cap : Nat) (zs : Nat → Int) (w : World) (h : Row8 w w.heap.size a len cap zs) :
    Calls Try.prog 43 #[.slice a len cap] w (Drew2 w) := by
  have H := Lib.hid h
  clear h
  go_enter Try.func43, Try.ntmps43
  go_wp2_with (go_at_call 34; refine (drawFloorShift_any _ _ _ _ _ H.out).mono ?_; rintro e w1 ⟨x, y, rfl, hb⟩)
  go_ret2
  exact ⟨_, _, rfl, hb⟩

end Go.Proofs.Ytjbaegbdacpdnaa
