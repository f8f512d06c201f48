/-
  The draw of a number for arc tangents.
-/
import Derived.Test.YtmjmafgjejphbaaDrawSpans
import Derived.Test.YtmjmafgjejphbaaMathB
namespace Go.Proofs.Ytmjmafgjejphbaa
open Go.RowKit

theorem shl_one {x : Int} (l : 0 ≤ x) (u : x ≤ 16) : NumIn 1 65536 (.int .i64 (2 ^ x.toNat)) :=
  have := Fx.pow_16 (k := x.toNat) (by omega)
  ⟨_, rfl, this.1, this.2⟩
theorem shl_one_raw {x : Int} (l : 0 ≤ x) (u : x ≤ 16) : NumIn 1 65536 (.int .i64 (IntKind.i64.wrap (2 ^ x.toNat))) := by
  have := Fx.pow_16 (k := x.toNat) (by omega)
  rw [IntWalk.i64_in _ (by omega)]
  exact ⟨_, rfl, this.1, this.2⟩

set_option linter.unusedVariables false in
def kindsArcSpan (S : List Nat) (B : Nat) : Nat → Value → World → Prop
  | 0, v, _ => IsRd B v
  | 1, v, _ => NumIn 0 11 v
  | 2, v, _ => NumIn 2 13 v
  | 3, v, _ => IsRd B v
  | 4, v, _ => NumIn 0 15 v
  | 5, v, _ => NumIn 1 16 v
  | 6, v, _ => NumIn 1 65536 v
  | 7, v, _ => IsRd B v
  | 8, v, _ => NumIn 0 255 v
  | 9, v, _ => NumIn 0 65280 v
  | 10, v, _ => NumIn 1 65281 v
  | 11, v, w => RowNum S 6 v w
  | 12, v, w => RowIn S 9 0 5 v w
  | 13, v, _ => IsRd B v
  | 14, v, _ => NumIn 0 8 v
  | 15, v, w => AtIn S 0 5 v w
  | 16, v, _ => NumIn 0 5 v
  | 17, v, w => AtNum S v w
  | 18, v, _ => IsNum v
  | 19, v, _ => IsNum v
  | _, _, _ => True
set_option linter.unusedVariables false in
theorem kindsArcSpan_keep (S : List Nat) (B : Nat) (j : Nat) (v : Value) (w w' : World) (h : kindsArcSpan S B j v w) (k : KeptS S w w') : kindsArcSpan S B j v w' := by
  unfold kindsArcSpan at *
  split at h <;> first | exact h | exact h.keep k

set_option maxRecDepth 4000 in
set_option maxHeartbeats 4000000 in
theorem drawArcSpan_any (a : Option Addr) (len cap : Nat) (zs : Nat → Int) (w : World) (h : Row8 w w.heap.size a len cap zs) :
    Calls Try.prog 36 #[.slice a len cap] w (Drew1 w) := by
  have H := Lib.hid h
  clear h
  go_enter Try.func36, Try.ntmps36
  go_wp2_with fail
  refine (l20Open_at _ _ _ _ w.heap.size _ H.out (Nat.le_refl _)).mono ?_
  rintro e w1 ⟨B, hB, rfl, hr, hK, ha⟩
  clear ha H
  go_wp2_with fail
  have hY := staysS_true [B]
  have hBS : B ∈ [B] := by simp
  refine Fxr.wp_region_typed (kindsArcSpan [B] B) (ReadsP [B] w1 B 0 1000 [] (fun _ => True)) (KeptS [B]) (by kernel_rfl) (by kernel_rfl) (by kernel_rfl) rfl (kindsArcSpan_keep _ _)
    ⟨⟨0, by omega, hr⟩, (KeptS.refl _ _).drewN 1, by have := hr.1; simpa using this, Pairs.none _ _, trivial, rfl⟩ ?_ ?_
  · have hB := hBS
    clear hK hr hBS
    refine ⟨?_, ?_, ?_, ?_, ?_, ?_, ?_, ?_, ?_, ?_, ?_, ?_, ?_, ?_, ?_, ?_, ?_, ?_, ?_, ?_, trivial⟩
    · intro a wr k hk hl hR hd hold
      have d3 : a.tmps.getD 3 undef = .pointer (some ⟨_, 0, none⟩) := hl.rest 3 (not_dst rfl)
      refine wpOp_at _ rfl rfl ?_
      have f3 := getD_form d3
      clear hl hd hold hk
      go_simp
      exact ⟨_, rfl, rfl, hR.next (by decide), KeptS.refl _ _⟩
    · intro a wr k hk hl hR hd hold
      have d6 : a.tmps.getD 6 undef = .pointer (some ⟨_, 0, none⟩) := hd ⟨0, .data⟩ (by simp) rfl
      refine wpOp_at _ rfl rfl ?_
      have f6 := getD_form d6
      obtain ⟨q0, hq0, hr0⟩ := hR.reader
      have hk0 : k < 20 := hk
      clear hl hd hold hk
      go_simp
      refine (pick_any _ _ _ _ hr0 (by omega)).mono ?_
      rintro e w1 ⟨x, rfl, hx, hr1, hk1⟩
      have hx1 := hx (by omega)
      exact ⟨_, rfl, ⟨x, rfl, hx1.1, by omega⟩, hR.gone hY hB (by omega) hr1 hk1, hk1.toS hB⟩
    · intro a wr k hk hl hR hd hold
      obtain ⟨x7, d7, l7, u7⟩ : NumIn 0 11 (a.tmps.getD 7 undef) := hd ⟨1, .data⟩ (by simp) rfl
      refine wpOp_at _ rfl rfl ?_
      have f7 := getD_form d7
      clear hl hd hold hk
      go_simp
      exact ⟨_, rfl, ⟨_, rfl, by rw [IntWalk.i64_in _ (by omega)]; omega, by rw [IntWalk.i64_in _ (by omega)]; omega⟩, hR.next (by decide), KeptS.refl _ _⟩
    · intro a wr k hk hl hR hd hold
      have d3 : a.tmps.getD 3 undef = .pointer (some ⟨_, 0, none⟩) := hl.rest 3 (not_dst rfl)
      refine wpOp_at _ rfl rfl ?_
      have f3 := getD_form d3
      clear hl hd hold hk
      go_simp
      exact ⟨_, rfl, rfl, hR.next (by decide), KeptS.refl _ _⟩
    · intro a wr k hk hl hR hd hold
      have d9 : a.tmps.getD 9 undef = .pointer (some ⟨_, 0, none⟩) := hd ⟨3, .data⟩ (by simp) rfl
      refine wpOp_at _ rfl rfl ?_
      have f9 := getD_form d9
      obtain ⟨q0, hq0, hr0⟩ := hR.reader
      have hk0 : k < 20 := hk
      clear hl hd hold hk
      go_simp
      refine (pick_any _ _ _ _ hr0 (by omega)).mono ?_
      rintro e w1 ⟨x, rfl, hx, hr1, hk1⟩
      have hx1 := hx (by omega)
      exact ⟨_, rfl, ⟨x, rfl, hx1.1, by omega⟩, hR.gone hY hB (by omega) hr1 hk1, hk1.toS hB⟩
    · intro a wr k hk hl hR hd hold
      obtain ⟨x10, d10, l10, u10⟩ : NumIn 0 15 (a.tmps.getD 10 undef) := hd ⟨4, .data⟩ (by simp) rfl
      refine wpOp_at _ rfl rfl ?_
      have f10 := getD_form d10
      clear hl hd hold hk
      go_simp
      exact ⟨_, rfl, ⟨_, rfl, by rw [IntWalk.i64_in _ (by omega)]; omega, by rw [IntWalk.i64_in _ (by omega)]; omega⟩, hR.next (by decide), KeptS.refl _ _⟩
    · intro a wr k hk hl hR hd hold
      obtain ⟨x11, d11, l11, u11⟩ : NumIn 1 16 (a.tmps.getD 11 undef) := hd ⟨5, .data⟩ (by simp) rfl
      refine wpOp_at _ rfl rfl ?_
      have f11 := getD_form d11
      clear hl hd hold hk
      go_simp
      exact ⟨_, rfl, (by first | exact shl_one (by omega) (by omega) | exact shl_one_raw (by omega) (by omega)), hR.next (by decide), KeptS.refl _ _⟩
    · intro a wr k hk hl hR hd hold
      have d3 : a.tmps.getD 3 undef = .pointer (some ⟨_, 0, none⟩) := hl.rest 3 (not_dst rfl)
      refine wpOp_at _ rfl rfl ?_
      have f3 := getD_form d3
      clear hl hd hold hk
      go_simp
      exact ⟨_, rfl, rfl, hR.next (by decide), KeptS.refl _ _⟩
    · intro a wr k hk hl hR hd hold
      have d13 : a.tmps.getD 13 undef = .pointer (some ⟨_, 0, none⟩) := hd ⟨7, .data⟩ (by simp) rfl
      refine wpOp_at _ rfl rfl ?_
      have f13 := getD_form d13
      obtain ⟨q0, hq0, hr0⟩ := hR.reader
      have hk0 : k < 20 := hk
      clear hl hd hold hk
      go_simp
      refine (pick_any _ _ _ _ hr0 (by omega)).mono ?_
      rintro e w1 ⟨x, rfl, hx, hr1, hk1⟩
      have hx1 := hx (by omega)
      exact ⟨_, rfl, ⟨x, rfl, hx1.1, by omega⟩, hR.gone hY hB (by omega) hr1 hk1, hk1.toS hB⟩
    · intro a wr k hk hl hR hd hold
      obtain ⟨x14, d14, l14, u14⟩ : NumIn 0 255 (a.tmps.getD 14 undef) := hd ⟨8, .data⟩ (by simp) rfl
      refine wpOp_at _ rfl rfl ?_
      have f14 := getD_form d14
      clear hl hd hold hk
      go_simp
      exact ⟨_, rfl, ⟨_, rfl, by rw [IntWalk.i64_in _ (by omega)]; omega, by rw [IntWalk.i64_in _ (by omega)]; omega⟩, hR.next (by decide), KeptS.refl _ _⟩
    · intro a wr k hk hl hR hd hold
      obtain ⟨x15, d15, l15, u15⟩ : NumIn 0 65280 (a.tmps.getD 15 undef) := hd ⟨9, .data⟩ (by simp) rfl
      refine wpOp_at _ rfl rfl ?_
      have f15 := getD_form d15
      clear hl hd hold hk
      go_simp
      exact ⟨_, rfl, ⟨_, rfl, by rw [IntWalk.i64_in _ (by omega)]; omega, by rw [IntWalk.i64_in _ (by omega)]; omega⟩, hR.next (by decide), KeptS.refl _ _⟩
    · intro a wr k hk hl hR hd hold
      obtain ⟨x8, d8, l8, u8⟩ : NumIn 2 13 (a.tmps.getD 8 undef) := hd ⟨2, .data⟩ (by simp) rfl
      obtain ⟨x12, d12, l12, u12⟩ : NumIn 1 65536 (a.tmps.getD 12 undef) := hd ⟨6, .data⟩ (by simp) rfl
      obtain ⟨x16, d16, l16, u16⟩ : NumIn 1 65281 (a.tmps.getD 16 undef) := hd ⟨10, .data⟩ (by simp) rfl
      refine wpOp_at _ rfl rfl ?_
      have f8 := getD_form d8
      have f12 := getD_form d12
      have f16 := getD_form d16
      clear hl hd hold hk
      go_simp
      exact ⟨_, rfl, RowNum.made hR.fresh _ _ 6 rfl rfl, hR.alloc (by decide) hY _, (KeptS.refl _ _).alloc _⟩
    · intro a wr k hk hl hR hd hold
      refine wpOp_at _ rfl rfl ?_
      clear hl hd hold hk
      go_simp
      exact ⟨_, rfl, RowIn.made hR.fresh _ _ 9 0 5 rfl rfl, hR.alloc (by decide) hY _, (KeptS.refl _ _).alloc _⟩
    · intro a wr k hk hl hR hd hold
      have d3 : a.tmps.getD 3 undef = .pointer (some ⟨_, 0, none⟩) := hl.rest 3 (not_dst rfl)
      refine wpOp_at _ rfl rfl ?_
      have f3 := getD_form d3
      clear hl hd hold hk
      go_simp
      exact ⟨_, rfl, rfl, hR.next (by decide), KeptS.refl _ _⟩
    · intro a wr k hk hl hR hd hold
      have d19 : a.tmps.getD 19 undef = .pointer (some ⟨_, 0, none⟩) := hd ⟨13, .data⟩ (by simp) rfl
      refine wpOp_at _ rfl rfl ?_
      have f19 := getD_form d19
      obtain ⟨q0, hq0, hr0⟩ := hR.reader
      have hk0 : k < 20 := hk
      clear hl hd hold hk
      go_simp
      refine (pick_any _ _ _ _ hr0 (by omega)).mono ?_
      rintro e w1 ⟨x, rfl, hx, hr1, hk1⟩
      have hx1 := hx (by omega)
      exact ⟨_, rfl, ⟨x, rfl, hx1.1, by omega⟩, hR.gone hY hB (by omega) hr1 hk1, hk1.toS hB⟩
    · intro a wr k hk hl hR hd hold
      obtain ⟨b18, d18, n18, s18, c18⟩ : RowIn _ 9 0 5 (a.tmps.getD 18 undef) wr := hd ⟨12, .data⟩ (by simp) rfl
      obtain ⟨x20, d20, l20, u20⟩ : NumIn 0 8 (a.tmps.getD 20 undef) := hd ⟨14, .data⟩ (by simp) rfl
      refine wpOp_at _ rfl rfl ?_
      have f18 := getD_form d18
      have f20 := getD_form d20
      have z20 : 0 ≤ x20 ∧ x20 < 9 := ⟨by omega, by omega⟩
      clear hl hd hold hk
      have C18 := Lib.hid c18
      clear c18
      go_simp
      exact ⟨_, rfl, row_in n18 s18 C18.out z20, hR.next (by decide), KeptS.refl _ _⟩
    · intro a wr k hk hl hR hd hold
      obtain ⟨b21, i21, d21, n21, s21, y21, c21, l21, u21⟩ : AtIn _ 0 5 (a.tmps.getD 21 undef) wr := hd ⟨15, .data⟩ (by simp) rfl
      refine wpOp_at _ rfl rfl ?_
      have f21 := getD_form d21
      clear hl hd hold hk
      go_simp
      exact ⟨_, rfl, ⟨_, rfl, l21, u21⟩, hR.next (by decide), KeptS.refl _ _⟩
    · intro a wr k hk hl hR hd hold
      obtain ⟨b17, d17, n17, s17, c17⟩ : RowNum _ 6 (a.tmps.getD 17 undef) wr := hd ⟨11, .data⟩ (by simp) rfl
      obtain ⟨x22, d22, l22, u22⟩ : NumIn 0 5 (a.tmps.getD 22 undef) := hd ⟨16, .data⟩ (by simp) rfl
      refine wpOp_at _ rfl rfl ?_
      have f17 := getD_form d17
      have f22 := getD_form d22
      have z22 : 0 ≤ x22 ∧ x22 < 6 := ⟨by omega, by omega⟩
      clear hl hd hold hk
      have C17 := Lib.hid c17
      clear c17
      go_simp
      exact ⟨_, rfl, row_num n17 s17 C17.out z22, hR.next (by decide), KeptS.refl _ _⟩
    · intro a wr k hk hl hR hd hold
      obtain ⟨b23, i23, d23, n23, s23, y23, c23⟩ : AtNum _ (a.tmps.getD 23 undef) wr := hd ⟨17, .data⟩ (by simp) rfl
      refine wpOp_at _ rfl rfl ?_
      have f23 := getD_form d23
      clear hl hd hold hk
      go_simp
      exact ⟨_, rfl, ⟨_, rfl⟩, hR.next (by decide), KeptS.refl _ _⟩
    · intro a wr k hk hl hR hd hold
      obtain ⟨x24, d24⟩ : IsNum (a.tmps.getD 24 undef) := hd ⟨18, .data⟩ (by simp) rfl
      refine wpOp_at _ rfl rfl ?_
      have f24 := getD_form d24
      clear hl hd hold hk
      go_simp
      exact ⟨_, rfl, ⟨_, rfl⟩, hR.next (by decide), KeptS.refl _ _⟩
  ·
    intro a wr k hk0 hl hR hT
    obtain ⟨x2, d2⟩ : IsNum (a.tmps.getD 2 undef) := hT 19 (by decide)
    have d6 : a.tmps.getD 6 undef = .pointer (some ⟨_, 0, none⟩) := hT 0 (by decide)
    obtain ⟨x7, d7, l7, u7⟩ : NumIn 0 11 (a.tmps.getD 7 undef) := hT 1 (by decide)
    obtain ⟨x8, d8, l8, u8⟩ : NumIn 2 13 (a.tmps.getD 8 undef) := hT 2 (by decide)
    have d9 : a.tmps.getD 9 undef = .pointer (some ⟨_, 0, none⟩) := hT 3 (by decide)
    obtain ⟨x10, d10, l10, u10⟩ : NumIn 0 15 (a.tmps.getD 10 undef) := hT 4 (by decide)
    obtain ⟨x11, d11, l11, u11⟩ : NumIn 1 16 (a.tmps.getD 11 undef) := hT 5 (by decide)
    obtain ⟨x12, d12, l12, u12⟩ : NumIn 1 65536 (a.tmps.getD 12 undef) := hT 6 (by decide)
    have d13 : a.tmps.getD 13 undef = .pointer (some ⟨_, 0, none⟩) := hT 7 (by decide)
    obtain ⟨x14, d14, l14, u14⟩ : NumIn 0 255 (a.tmps.getD 14 undef) := hT 8 (by decide)
    obtain ⟨x15, d15, l15, u15⟩ : NumIn 0 65280 (a.tmps.getD 15 undef) := hT 9 (by decide)
    obtain ⟨x16, d16, l16, u16⟩ : NumIn 1 65281 (a.tmps.getD 16 undef) := hT 10 (by decide)
    obtain ⟨b17, d17, -⟩ : RowNum _ 6 (a.tmps.getD 17 undef) wr := hT 11 (by decide)
    obtain ⟨b18, d18, -⟩ : RowIn _ 9 0 5 (a.tmps.getD 18 undef) wr := hT 12 (by decide)
    have d19 : a.tmps.getD 19 undef = .pointer (some ⟨_, 0, none⟩) := hT 13 (by decide)
    obtain ⟨x20, d20, l20, u20⟩ : NumIn 0 8 (a.tmps.getD 20 undef) := hT 14 (by decide)
    obtain ⟨b21, i21, d21, -⟩ : AtIn _ 0 5 (a.tmps.getD 21 undef) wr := hT 15 (by decide)
    obtain ⟨x22, d22, l22, u22⟩ : NumIn 0 5 (a.tmps.getD 22 undef) := hT 16 (by decide)
    obtain ⟨b23, i23, d23, -⟩ : AtNum _ (a.tmps.getD 23 undef) wr := hT 17 (by decide)
    obtain ⟨x24, d24⟩ : IsNum (a.tmps.getD 24 undef) := hT 18 (by decide)
    have ea := Fxr.act_ext a [_, _, _, _, _, _, _, _, _, _, _, _, _, _, _, _, _, _, _, _, _, _, _, _, _] hl.defers (by exact hl.size) ⟨hl.rest 0 (not_dst rfl), hl.rest 1 (not_dst rfl), d2, hl.rest 3 (not_dst rfl), hl.rest 4 (not_dst rfl), hl.rest 5 (not_dst rfl), d6, d7, d8, d9, d10, d11, d12, d13, d14, d15, d16, d17, d18, d19, d20, d21, d22, d23, d24, trivial⟩
    clear hT hl
    subst ea
    have hK := hR.toKept hK (by simp)
    clear hR hr hBS
    go_wp2
    go_ret
    exact ⟨_, rfl, hK.below hB (Nat.le_refl _)⟩

end Go.Proofs.Ytmjmafgjejphbaa
