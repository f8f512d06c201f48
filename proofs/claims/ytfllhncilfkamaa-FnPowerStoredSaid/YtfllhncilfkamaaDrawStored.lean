/-
  The draw of a stored number.
-/
import Derived.Test.YtfllhncilfkamaaDrawFormat
import Derived.Test.YtfllhncilfkamaaFmt
namespace Go.Proofs.Ytfllhncilfkamaa
open Go.RowKit

set_option linter.unusedVariables false in
def kindsStored (S : List Nat) (B : Nat) (b0 : Nat) : Nat → Value → World → Prop
  | 0, v, _ => IsRd B v
  | 1, v, _ => NumIn 0 255 v
  | 2, v, _ => NumIn (-128) 127 v
  | 3, v, _ => IsRd B v
  | 4, v, _ => NumIn 0 255 v
  | 5, v, _ => IsNum v
  | 6, v, _ => IsRd B v
  | 7, v, _ => NumIn 0 255 v
  | 8, v, _ => IsNum v
  | 9, v, _ => IsNum v
  | 10, v, _ => IsRd B v
  | 11, v, _ => NumIn 0 255 v
  | 12, v, _ => IsNum v
  | 13, v, _ => NumIn 1 268435455 v
  | 14, v, _ => NumIn 2 536870910 v
  | 15, v, _ => NumIn 4 536870912 v
  | 16, v, _ => IsNum v
  | 17, v, _ => NumIn 1 268435455 v
  | 18, v, _ => IsNum v
  | 19, v, _ => IsNum v
  | 20, v, _ => NumIn 1 268435455 v
  | 21, v, _ => NumIn 1 268435455 v
  | 22, v, _ => IsNum v
  | 23, v, _ => IsNum v
  | 24, v, _ => v = .pointer (some ⟨b0, 1, none⟩)
  | 25, v, _ => NumIn 0 16 v
  | 26, v, _ => IsNum v
  | 27, v, w => RowNum S 5 v w
  | 28, v, w => RowIn S 8 0 4 v w
  | 29, v, _ => IsRd B v
  | 30, v, _ => NumIn 0 7 v
  | 31, v, w => AtIn S 0 4 v w
  | 32, v, _ => NumIn 0 4 v
  | 33, v, w => AtNum S v w
  | 34, v, _ => IsNum v
  | 35, v, _ => IsNum v
  | _, _, _ => True
set_option linter.unusedVariables false in
theorem kindsStored_keep (S : List Nat) (B b0 : Nat) (j : Nat) (v : Value) (w w' : World) (h : kindsStored S B b0 j v w) (k : KeptS S w w') : kindsStored S B b0 j v w' := by
  unfold kindsStored at *
  split at h <;> first | exact h | exact h.keep k

set_option maxHeartbeats 8000000 in
theorem l20Stored_any (B : Nat) (p W P n : Int) (w : World) (h : Rd w B p) (hp : p ≤ 400000) (hn : 1 ≤ n ∧ n ≤ 1000) :
    Calls Try.prog 76 #[.pointer (some ⟨B, 0, none⟩), .agg #[.int .i64 W, .int .i64 P], .int .i64 n] w (DrewInt w B p 400) := by
  have hB := h.1
  by_cases hv : (1 ≤ W ∧ W ≤ 12) ∧ 0 ≤ P ∧ P ≤ 16
  · have hpw := Fx.pow_28 (k := (W + P).toNat) (by omega)
    have hpw2 := Fx.pow_28 (k := (W + P - 1).toNat) (by omega)
    have hw1 : IntKind.i64.wrap (1 * 2 ^ (W + P).toNat) = 2 ^ (W + P).toNat := by rw [Int.one_mul]; exact IntWalk.i64_in _ (by omega)
    go_enter Try.func76, Try.ntmps76
    go_wp2_with fail
    refine (s_formatValid_yes _ _ _ hv).mono ?_
    rintro e w1 ⟨rfl, hb⟩
    have hx := (Box.made (.int .i64 W) (.int .i64 P) 52 h).keep (kept_of_below hb B)
    have hr1 := Rd.keepB (h.alloc _) hb
    have hK := ((Kept.refl B w).alloc _).trans (kept_of_below hb B)
    clear hb h
    obtain ⟨⟨s0, s1, -⟩, ⟨c0, c1⟩, f0, f1⟩ := id hx
    go_wp2_with fail
    generalize hm : (2 : Int) ^ (W + P).toNat - 1 = m
    have l7 : 1 ≤ m := by
      have e : (2 : Int) ^ (W + P).toNat = 2 ^ (W + P - 1).toNat * 2 := by rw [← Int.pow_succ]; congr 1; omega
      omega
    have u7 : m ≤ 268435455 := by omega
    have lP : 0 ≤ P := hv.2.1
    have uP : P ≤ 16 := hv.2.2
    clear hm hw1 hpw hpw2 f0 f1 c0
    have hY := staysS_cell (S := [B]) (b := w.heap.size) (o := 1) (v := .int .i64 P) (by simp; omega)
    have hBS : B ∈ [B] := by simp
    have hs2 : ∀ s ∈ [B], s < w1.heap.size := by have := hr1.1; simpa using this
    refine Fxr.wp_region_typed (kindsStored [B] B w.heap.size) (ReadsP [B] w1 B p 10 [] (fun w' => w.heap.size < w'.heap.size ∧ w'.cell? ⟨w.heap.size, 1, none⟩ = some (.int .i64 P))) (KeptS [B]) (by kernel_rfl) (by kernel_rfl) (by kernel_rfl) rfl (kindsStored_keep _ _ _) ⟨⟨p, by omega, hr1⟩, (KeptS.refl _ _).drewN 1, hs2, Pairs.none _ _, ⟨s0, c1⟩, rfl⟩ ?_ ?_
    · have hB := hBS
      clear hK hx s0 s1 c1 hs2 hr1 hBS
      refine ⟨?_, ?_, ?_, ?_, ?_, ?_, ?_, ?_, ?_, ?_, ?_, ?_, ?_, ?_, ?_, ?_, ?_, ?_, ?_, ?_, ?_, ?_, ?_, ?_, ?_, ?_, ?_, ?_, ?_, ?_, ?_, ?_, ?_, ?_, ?_, ?_, trivial⟩
      · intro a wr k hk hl hR hd hold
        have d0 : a.tmps.getD 0 undef = .pointer (some ⟨_, 0, none⟩) := hl.rest 0 (not_dst rfl)
        refine wpOp_at _ rfl rfl ?_
        have f0 := getD_form d0
        clear hl hd hold hk
        go_simp
        exact ⟨_, rfl, rfl, hR.next (by decide), KeptS.refl _ _⟩
      · intro a wr k hk hl hR hd hold
        have d21 : a.tmps.getD 21 undef = .pointer (some ⟨_, 0, none⟩) := hd ⟨0, .data⟩ (by simp) rfl
        refine wpOp_at _ rfl rfl ?_
        have f21 := getD_form d21
        obtain ⟨q0, hq0, hr0⟩ := hR.reader
        have hk0 : k < 36 := hk
        clear hl hd hold hk
        go_simp
        refine (pick_any _ _ _ _ hr0 (by omega)).mono ?_
        rintro e w1 ⟨x, rfl, hx, hr1, hk1⟩
        have hx1 := hx (by omega)
        exact ⟨_, rfl, ⟨x, rfl, hx1.1, by omega⟩, hR.gone hY hB (by omega) hr1 hk1, hk1.toS hB⟩
      · intro a wr k hk hl hR hd hold
        obtain ⟨x22, d22, l22, u22⟩ : NumIn 0 255 (a.tmps.getD 22 undef) := hd ⟨1, .data⟩ (by simp) rfl
        refine wpOp_at _ rfl rfl ?_
        have f22 := getD_form d22
        clear hl hd hold hk
        go_simp
        exact ⟨_, rfl, ⟨_, rfl, by rw [IntWalk.i64_in _ (by omega)]; omega, by rw [IntWalk.i64_in _ (by omega)]; omega⟩, hR.next (by decide), KeptS.refl _ _⟩
      · intro a wr k hk hl hR hd hold
        have d0 : a.tmps.getD 0 undef = .pointer (some ⟨_, 0, none⟩) := hl.rest 0 (not_dst rfl)
        refine wpOp_at _ rfl rfl ?_
        have f0 := getD_form d0
        clear hl hd hold hk
        go_simp
        exact ⟨_, rfl, rfl, hR.next (by decide), KeptS.refl _ _⟩
      · intro a wr k hk hl hR hd hold
        have d24 : a.tmps.getD 24 undef = .pointer (some ⟨_, 0, none⟩) := hd ⟨3, .data⟩ (by simp) rfl
        refine wpOp_at _ rfl rfl ?_
        have f24 := getD_form d24
        obtain ⟨q0, hq0, hr0⟩ := hR.reader
        have hk0 : k < 36 := hk
        clear hl hd hold hk
        go_simp
        refine (pick_any _ _ _ _ hr0 (by omega)).mono ?_
        rintro e w1 ⟨x, rfl, hx, hr1, hk1⟩
        have hx1 := hx (by omega)
        exact ⟨_, rfl, ⟨x, rfl, hx1.1, by omega⟩, hR.gone hY hB (by omega) hr1 hk1, hk1.toS hB⟩
      · intro a wr k hk hl hR hd hold
        obtain ⟨x25, d25, l25, u25⟩ : NumIn 0 255 (a.tmps.getD 25 undef) := hd ⟨4, .data⟩ (by simp) rfl
        refine wpOp_at _ rfl rfl ?_
        have f25 := getD_form d25
        clear hl hd hold hk
        go_simp
        exact ⟨_, rfl, ⟨_, rfl⟩, hR.next (by decide), KeptS.refl _ _⟩
      · intro a wr k hk hl hR hd hold
        have d0 : a.tmps.getD 0 undef = .pointer (some ⟨_, 0, none⟩) := hl.rest 0 (not_dst rfl)
        refine wpOp_at _ rfl rfl ?_
        have f0 := getD_form d0
        clear hl hd hold hk
        go_simp
        exact ⟨_, rfl, rfl, hR.next (by decide), KeptS.refl _ _⟩
      · intro a wr k hk hl hR hd hold
        have d27 : a.tmps.getD 27 undef = .pointer (some ⟨_, 0, none⟩) := hd ⟨6, .data⟩ (by simp) rfl
        refine wpOp_at _ rfl rfl ?_
        have f27 := getD_form d27
        obtain ⟨q0, hq0, hr0⟩ := hR.reader
        have hk0 : k < 36 := hk
        clear hl hd hold hk
        go_simp
        refine (pick_any _ _ _ _ hr0 (by omega)).mono ?_
        rintro e w1 ⟨x, rfl, hx, hr1, hk1⟩
        have hx1 := hx (by omega)
        exact ⟨_, rfl, ⟨x, rfl, hx1.1, by omega⟩, hR.gone hY hB (by omega) hr1 hk1, hk1.toS hB⟩
      · intro a wr k hk hl hR hd hold
        obtain ⟨x28, d28, l28, u28⟩ : NumIn 0 255 (a.tmps.getD 28 undef) := hd ⟨7, .data⟩ (by simp) rfl
        refine wpOp_at _ rfl rfl ?_
        have f28 := getD_form d28
        clear hl hd hold hk
        go_simp
        exact ⟨_, rfl, ⟨_, rfl⟩, hR.next (by decide), KeptS.refl _ _⟩
      · intro a wr k hk hl hR hd hold
        obtain ⟨x26, d26⟩ : IsNum (a.tmps.getD 26 undef) := hd ⟨5, .data⟩ (by simp) rfl
        obtain ⟨x29, d29⟩ : IsNum (a.tmps.getD 29 undef) := hd ⟨8, .data⟩ (by simp) rfl
        refine wpOp_at _ rfl rfl ?_
        have f26 := getD_form d26
        have f29 := getD_form d29
        clear hl hd hold hk
        go_simp
        exact ⟨_, rfl, ⟨_, rfl⟩, hR.next (by decide), KeptS.refl _ _⟩
      · intro a wr k hk hl hR hd hold
        have d0 : a.tmps.getD 0 undef = .pointer (some ⟨_, 0, none⟩) := hl.rest 0 (not_dst rfl)
        refine wpOp_at _ rfl rfl ?_
        have f0 := getD_form d0
        clear hl hd hold hk
        go_simp
        exact ⟨_, rfl, rfl, hR.next (by decide), KeptS.refl _ _⟩
      · intro a wr k hk hl hR hd hold
        have d31 : a.tmps.getD 31 undef = .pointer (some ⟨_, 0, none⟩) := hd ⟨10, .data⟩ (by simp) rfl
        refine wpOp_at _ rfl rfl ?_
        have f31 := getD_form d31
        obtain ⟨q0, hq0, hr0⟩ := hR.reader
        have hk0 : k < 36 := hk
        clear hl hd hold hk
        go_simp
        refine (pick_any _ _ _ _ hr0 (by omega)).mono ?_
        rintro e w1 ⟨x, rfl, hx, hr1, hk1⟩
        have hx1 := hx (by omega)
        exact ⟨_, rfl, ⟨x, rfl, hx1.1, by omega⟩, hR.gone hY hB (by omega) hr1 hk1, hk1.toS hB⟩
      · intro a wr k hk hl hR hd hold
        obtain ⟨x30, d30⟩ : IsNum (a.tmps.getD 30 undef) := hd ⟨9, .data⟩ (by simp) rfl
        obtain ⟨x32, d32, l32, u32⟩ : NumIn 0 255 (a.tmps.getD 32 undef) := hd ⟨11, .data⟩ (by simp) rfl
        refine wpOp_at _ rfl rfl ?_
        have f30 := getD_form d30
        have f32 := getD_form d32
        clear hl hd hold hk
        go_simp
        exact ⟨_, rfl, ⟨_, rfl⟩, hR.next (by decide), KeptS.refl _ _⟩
      · intro a wr k hk hl hR hd hold
        have d7 : a.tmps.getD 7 undef = .int .i64 m := hl.rest 7 (not_dst rfl)
        refine wpOp_at _ rfl rfl ?_
        have f7 := getD_form d7
        clear hl hd hold hk
        go_simp
        exact ⟨_, rfl, ⟨_, rfl, l7, u7⟩, hR.next (by decide), KeptS.refl _ _⟩
      · intro a wr k hk hl hR hd hold
        obtain ⟨x34, d34, l34, u34⟩ : NumIn 1 268435455 (a.tmps.getD 34 undef) := hd ⟨13, .data⟩ (by simp) rfl
        refine wpOp_at _ rfl rfl ?_
        have f34 := getD_form d34
        clear hl hd hold hk
        go_simp
        exact ⟨_, rfl, ⟨_, rfl, by rw [IntWalk.i64_in _ (by omega)]; omega, by rw [IntWalk.i64_in _ (by omega)]; omega⟩, hR.next (by decide), KeptS.refl _ _⟩
      · intro a wr k hk hl hR hd hold
        obtain ⟨x35, d35, l35, u35⟩ : NumIn 2 536870910 (a.tmps.getD 35 undef) := hd ⟨14, .data⟩ (by simp) rfl
        refine wpOp_at _ rfl rfl ?_
        have f35 := getD_form d35
        clear hl hd hold hk
        go_simp
        exact ⟨_, rfl, ⟨_, rfl, by rw [IntWalk.i64_in _ (by omega)]; omega, by rw [IntWalk.i64_in _ (by omega)]; omega⟩, hR.next (by decide), KeptS.refl _ _⟩
      · intro a wr k hk hl hR hd hold
        obtain ⟨x33, d33⟩ : IsNum (a.tmps.getD 33 undef) := hd ⟨12, .data⟩ (by simp) rfl
        obtain ⟨x36, d36, l36, u36⟩ : NumIn 4 536870912 (a.tmps.getD 36 undef) := hd ⟨15, .data⟩ (by simp) rfl
        refine wpOp_at _ rfl rfl ?_
        have f33 := getD_form d33
        have f36 := getD_form d36
        have z36 : x36 ≠ 0 := by omega
        have y36 : (x36 == 0) = false := by simpa using z36
        clear hl hd hold hk
        go_simp
        exact ⟨_, rfl, ⟨_, rfl⟩, hR.next (by decide), KeptS.refl _ _⟩
      · intro a wr k hk hl hR hd hold
        have d7 : a.tmps.getD 7 undef = .int .i64 m := hl.rest 7 (not_dst rfl)
        refine wpOp_at _ rfl rfl ?_
        have f7 := getD_form d7
        clear hl hd hold hk
        go_simp
        exact ⟨_, rfl, ⟨_, rfl, l7, u7⟩, hR.next (by decide), KeptS.refl _ _⟩
      · intro a wr k hk hl hR hd hold
        obtain ⟨x37, d37⟩ : IsNum (a.tmps.getD 37 undef) := hd ⟨16, .data⟩ (by simp) rfl
        obtain ⟨x38, d38, l38, u38⟩ : NumIn 1 268435455 (a.tmps.getD 38 undef) := hd ⟨17, .data⟩ (by simp) rfl
        refine wpOp_at _ rfl rfl ?_
        have f37 := getD_form d37
        have f38 := getD_form d38
        clear hl hd hold hk
        go_simp
        exact ⟨_, rfl, ⟨_, rfl⟩, hR.next (by decide), KeptS.refl _ _⟩
      · intro a wr k hk hl hR hd hold
        obtain ⟨x39, d39⟩ : IsNum (a.tmps.getD 39 undef) := hd ⟨18, .data⟩ (by simp) rfl
        refine wpOp_at _ rfl rfl ?_
        have f39 := getD_form d39
        clear hl hd hold hk
        go_simp
        exact ⟨_, rfl, ⟨_, rfl⟩, hR.next (by decide), KeptS.refl _ _⟩
      · intro a wr k hk hl hR hd hold
        have d7 : a.tmps.getD 7 undef = .int .i64 m := hl.rest 7 (not_dst rfl)
        refine wpOp_at _ rfl rfl ?_
        have f7 := getD_form d7
        clear hl hd hold hk
        go_simp
        exact ⟨_, rfl, ⟨_, rfl, l7, u7⟩, hR.next (by decide), KeptS.refl _ _⟩
      · intro a wr k hk hl hR hd hold
        have d7 : a.tmps.getD 7 undef = .int .i64 m := hl.rest 7 (not_dst rfl)
        refine wpOp_at _ rfl rfl ?_
        have f7 := getD_form d7
        clear hl hd hold hk
        go_simp
        exact ⟨_, rfl, ⟨_, rfl, l7, u7⟩, hR.next (by decide), KeptS.refl _ _⟩
      · intro a wr k hk hl hR hd hold
        obtain ⟨x42, d42, l42, u42⟩ : NumIn 1 268435455 (a.tmps.getD 42 undef) := hd ⟨21, .data⟩ (by simp) rfl
        refine wpOp_at _ rfl rfl ?_
        have f42 := getD_form d42
        clear hl hd hold hk
        go_simp
        exact ⟨_, rfl, ⟨_, rfl⟩, hR.next (by decide), KeptS.refl _ _⟩
      · intro a wr k hk hl hR hd hold
        obtain ⟨x43, d43⟩ : IsNum (a.tmps.getD 43 undef) := hd ⟨22, .data⟩ (by simp) rfl
        refine wpOp_at _ rfl rfl ?_
        have f43 := getD_form d43
        clear hl hd hold hk
        go_simp
        exact ⟨_, rfl, ⟨_, rfl⟩, hR.next (by decide), KeptS.refl _ _⟩
      · intro a wr k hk hl hR hd hold
        have d4 : a.tmps.getD 4 undef = .pointer (some ⟨w.heap.size, 0, none⟩) := hl.rest 4 (not_dst rfl)
        refine wpOp_at _ rfl rfl ?_
        have f4 := getD_form d4
        clear hl hd hold hk
        go_simp
        exact ⟨_, rfl, rfl, hR.next (by decide), KeptS.refl _ _⟩
      · intro a wr k hk hl hR hd hold
        have d45 : a.tmps.getD 45 undef = .pointer (some ⟨w.heap.size, 1, none⟩) := hd ⟨24, .data⟩ (by simp) rfl
        refine wpOp_at _ rfl rfl ?_
        have f45 := getD_form d45
        obtain ⟨e0, e1⟩ := hR.more
        clear hl hd hold hk
        go_simp
        exact ⟨_, rfl, ⟨_, rfl, lP, uP⟩, hR.next (by decide), KeptS.refl _ _⟩
      · intro a wr k hk hl hR hd hold
        obtain ⟨x46, d46, l46, u46⟩ : NumIn 0 16 (a.tmps.getD 46 undef) := hd ⟨25, .data⟩ (by simp) rfl
        refine wpOp_at _ rfl rfl ?_
        have f46 := getD_form d46
        clear hl hd hold hk
        go_simp
        exact ⟨_, rfl, ⟨_, rfl⟩, hR.next (by decide), KeptS.refl _ _⟩
      · intro a wr k hk hl hR hd hold
        obtain ⟨x23, d23, l23, u23⟩ : NumIn (-128) 127 (a.tmps.getD 23 undef) := hd ⟨2, .data⟩ (by simp) rfl
        obtain ⟨x40, d40⟩ : IsNum (a.tmps.getD 40 undef) := hd ⟨19, .data⟩ (by simp) rfl
        obtain ⟨x41, d41, l41, u41⟩ : NumIn 1 268435455 (a.tmps.getD 41 undef) := hd ⟨20, .data⟩ (by simp) rfl
        obtain ⟨x44, d44⟩ : IsNum (a.tmps.getD 44 undef) := hd ⟨23, .data⟩ (by simp) rfl
        obtain ⟨x47, d47⟩ : IsNum (a.tmps.getD 47 undef) := hd ⟨26, .data⟩ (by simp) rfl
        refine wpOp_at _ rfl rfl ?_
        have f23 := getD_form d23
        have f40 := getD_form d40
        have f41 := getD_form d41
        have f44 := getD_form d44
        have f47 := getD_form d47
        clear hl hd hold hk
        go_simp
        exact ⟨_, rfl, RowNum.made hR.fresh _ _ 5 rfl rfl, hR.alloc (by decide) hY _, (KeptS.refl _ _).alloc _⟩
      · intro a wr k hk hl hR hd hold
        refine wpOp_at _ rfl rfl ?_
        clear hl hd hold hk
        go_simp
        exact ⟨_, rfl, RowIn.made hR.fresh _ _ 8 0 4 rfl rfl, hR.alloc (by decide) hY _, (KeptS.refl _ _).alloc _⟩
      · intro a wr k hk hl hR hd hold
        have d0 : a.tmps.getD 0 undef = .pointer (some ⟨_, 0, none⟩) := hl.rest 0 (not_dst rfl)
        refine wpOp_at _ rfl rfl ?_
        have f0 := getD_form d0
        clear hl hd hold hk
        go_simp
        exact ⟨_, rfl, rfl, hR.next (by decide), KeptS.refl _ _⟩
      · intro a wr k hk hl hR hd hold
        have d50 : a.tmps.getD 50 undef = .pointer (some ⟨_, 0, none⟩) := hd ⟨29, .data⟩ (by simp) rfl
        refine wpOp_at _ rfl rfl ?_
        have f50 := getD_form d50
        obtain ⟨q0, hq0, hr0⟩ := hR.reader
        have hk0 : k < 36 := hk
        clear hl hd hold hk
        go_simp
        refine (pick_any _ _ _ _ hr0 (by omega)).mono ?_
        rintro e w1 ⟨x, rfl, hx, hr1, hk1⟩
        have hx1 := hx (by omega)
        exact ⟨_, rfl, ⟨x, rfl, hx1.1, by omega⟩, hR.gone hY hB (by omega) hr1 hk1, hk1.toS hB⟩
      · intro a wr k hk hl hR hd hold
        obtain ⟨b49, d49, n49, s49, c49⟩ : RowIn _ 8 0 4 (a.tmps.getD 49 undef) wr := hd ⟨28, .data⟩ (by simp) rfl
        obtain ⟨x51, d51, l51, u51⟩ : NumIn 0 7 (a.tmps.getD 51 undef) := hd ⟨30, .data⟩ (by simp) rfl
        refine wpOp_at _ rfl rfl ?_
        have f49 := getD_form d49
        have f51 := getD_form d51
        have z51 : 0 ≤ x51 ∧ x51 < 8 := ⟨by omega, by omega⟩
        clear hl hd hold hk
        have C49 := Lib.hid c49
        clear c49
        go_simp
        exact ⟨_, rfl, row_in n49 s49 C49.out z51, hR.next (by decide), KeptS.refl _ _⟩
      · intro a wr k hk hl hR hd hold
        obtain ⟨b52, i52, d52, n52, s52, y52, c52, l52, u52⟩ : AtIn _ 0 4 (a.tmps.getD 52 undef) wr := hd ⟨31, .data⟩ (by simp) rfl
        refine wpOp_at _ rfl rfl ?_
        have f52 := getD_form d52
        clear hl hd hold hk
        go_simp
        exact ⟨_, rfl, ⟨_, rfl, l52, u52⟩, hR.next (by decide), KeptS.refl _ _⟩
      · intro a wr k hk hl hR hd hold
        obtain ⟨b48, d48, n48, s48, c48⟩ : RowNum _ 5 (a.tmps.getD 48 undef) wr := hd ⟨27, .data⟩ (by simp) rfl
        obtain ⟨x53, d53, l53, u53⟩ : NumIn 0 4 (a.tmps.getD 53 undef) := hd ⟨32, .data⟩ (by simp) rfl
        refine wpOp_at _ rfl rfl ?_
        have f48 := getD_form d48
        have f53 := getD_form d53
        have z53 : 0 ≤ x53 ∧ x53 < 5 := ⟨by omega, by omega⟩
        clear hl hd hold hk
        have C48 := Lib.hid c48
        clear c48
        go_simp
        exact ⟨_, rfl, row_num n48 s48 C48.out z53, hR.next (by decide), KeptS.refl _ _⟩
      · intro a wr k hk hl hR hd hold
        obtain ⟨b54, i54, d54, n54, s54, y54, c54⟩ : AtNum _ (a.tmps.getD 54 undef) wr := hd ⟨33, .data⟩ (by simp) rfl
        refine wpOp_at _ rfl rfl ?_
        have f54 := getD_form d54
        clear hl hd hold hk
        go_simp
        exact ⟨_, rfl, ⟨_, rfl⟩, hR.next (by decide), KeptS.refl _ _⟩
      · intro a wr k hk hl hR hd hold
        obtain ⟨x55, d55⟩ : IsNum (a.tmps.getD 55 undef) := hd ⟨34, .data⟩ (by simp) rfl
        refine wpOp_at _ rfl rfl ?_
        have f55 := getD_form d55
        clear hl hd hold hk
        go_simp
        exact ⟨_, rfl, ⟨_, rfl⟩, hR.next (by decide), KeptS.refl _ _⟩
    ·
      intro a wr k hk0 hl hR hT
      obtain ⟨x8, d8⟩ : IsNum (a.tmps.getD 8 undef) := hT 35 (by decide)
      have d21 : a.tmps.getD 21 undef = .pointer (some ⟨_, 0, none⟩) := hT 0 (by decide)
      obtain ⟨x22, d22, l22, u22⟩ : NumIn 0 255 (a.tmps.getD 22 undef) := hT 1 (by decide)
      obtain ⟨x23, d23, l23, u23⟩ : NumIn (-128) 127 (a.tmps.getD 23 undef) := hT 2 (by decide)
      have d24 : a.tmps.getD 24 undef = .pointer (some ⟨_, 0, none⟩) := hT 3 (by decide)
      obtain ⟨x25, d25, l25, u25⟩ : NumIn 0 255 (a.tmps.getD 25 undef) := hT 4 (by decide)
      obtain ⟨x26, d26⟩ : IsNum (a.tmps.getD 26 undef) := hT 5 (by decide)
      have d27 : a.tmps.getD 27 undef = .pointer (some ⟨_, 0, none⟩) := hT 6 (by decide)
      obtain ⟨x28, d28, l28, u28⟩ : NumIn 0 255 (a.tmps.getD 28 undef) := hT 7 (by decide)
      obtain ⟨x29, d29⟩ : IsNum (a.tmps.getD 29 undef) := hT 8 (by decide)
      obtain ⟨x30, d30⟩ : IsNum (a.tmps.getD 30 undef) := hT 9 (by decide)
      have d31 : a.tmps.getD 31 undef = .pointer (some ⟨_, 0, none⟩) := hT 10 (by decide)
      obtain ⟨x32, d32, l32, u32⟩ : NumIn 0 255 (a.tmps.getD 32 undef) := hT 11 (by decide)
      obtain ⟨x33, d33⟩ : IsNum (a.tmps.getD 33 undef) := hT 12 (by decide)
      obtain ⟨x34, d34, l34, u34⟩ : NumIn 1 268435455 (a.tmps.getD 34 undef) := hT 13 (by decide)
      obtain ⟨x35, d35, l35, u35⟩ : NumIn 2 536870910 (a.tmps.getD 35 undef) := hT 14 (by decide)
      obtain ⟨x36, d36, l36, u36⟩ : NumIn 4 536870912 (a.tmps.getD 36 undef) := hT 15 (by decide)
      obtain ⟨x37, d37⟩ : IsNum (a.tmps.getD 37 undef) := hT 16 (by decide)
      obtain ⟨x38, d38, l38, u38⟩ : NumIn 1 268435455 (a.tmps.getD 38 undef) := hT 17 (by decide)
      obtain ⟨x39, d39⟩ : IsNum (a.tmps.getD 39 undef) := hT 18 (by decide)
      obtain ⟨x40, d40⟩ : IsNum (a.tmps.getD 40 undef) := hT 19 (by decide)
      obtain ⟨x41, d41, l41, u41⟩ : NumIn 1 268435455 (a.tmps.getD 41 undef) := hT 20 (by decide)
      obtain ⟨x42, d42, l42, u42⟩ : NumIn 1 268435455 (a.tmps.getD 42 undef) := hT 21 (by decide)
      obtain ⟨x43, d43⟩ : IsNum (a.tmps.getD 43 undef) := hT 22 (by decide)
      obtain ⟨x44, d44⟩ : IsNum (a.tmps.getD 44 undef) := hT 23 (by decide)
      have d45 : a.tmps.getD 45 undef = .pointer (some ⟨w.heap.size, 1, none⟩) := hT 24 (by decide)
      obtain ⟨x46, d46, l46, u46⟩ : NumIn 0 16 (a.tmps.getD 46 undef) := hT 25 (by decide)
      obtain ⟨x47, d47⟩ : IsNum (a.tmps.getD 47 undef) := hT 26 (by decide)
      obtain ⟨b48, d48, -⟩ : RowNum _ 5 (a.tmps.getD 48 undef) wr := hT 27 (by decide)
      obtain ⟨b49, d49, -⟩ : RowIn _ 8 0 4 (a.tmps.getD 49 undef) wr := hT 28 (by decide)
      have d50 : a.tmps.getD 50 undef = .pointer (some ⟨_, 0, none⟩) := hT 29 (by decide)
      obtain ⟨x51, d51, l51, u51⟩ : NumIn 0 7 (a.tmps.getD 51 undef) := hT 30 (by decide)
      obtain ⟨b52, i52, d52, -⟩ : AtIn _ 0 4 (a.tmps.getD 52 undef) wr := hT 31 (by decide)
      obtain ⟨x53, d53, l53, u53⟩ : NumIn 0 4 (a.tmps.getD 53 undef) := hT 32 (by decide)
      obtain ⟨b54, i54, d54, -⟩ : AtNum _ (a.tmps.getD 54 undef) wr := hT 33 (by decide)
      obtain ⟨x55, d55⟩ : IsNum (a.tmps.getD 55 undef) := hT 34 (by decide)
      have ea := Fxr.act_ext a [_, _, _, _, _, _, _, _, _, _, _, _, _, _, _, _, _, _, _, _, _, _, _, _, _, _, _, _, _, _, _, _, _, _, _, _, _, _, _, _, _, _, _, _, _, _, _, _, _, _, _, _, _, _, _, _, _, _, _, _, _, _, _, _, _, _, _, _, _, _, _, _, _, _, _, _, _] hl.defers (by exact hl.size) ⟨hl.rest 0 (not_dst rfl), hl.rest 1 (not_dst rfl), hl.rest 2 (not_dst rfl), hl.rest 3 (not_dst rfl), hl.rest 4 (not_dst rfl), hl.rest 5 (not_dst rfl), hl.rest 6 (not_dst rfl), hl.rest 7 (not_dst rfl), d8, hl.rest 9 (not_dst rfl), hl.rest 10 (not_dst rfl), hl.rest 11 (not_dst rfl), hl.rest 12 (not_dst rfl), hl.rest 13 (not_dst rfl), hl.rest 14 (not_dst rfl), hl.rest 15 (not_dst rfl), hl.rest 16 (not_dst rfl), hl.rest 17 (not_dst rfl), hl.rest 18 (not_dst rfl), hl.rest 19 (not_dst rfl), hl.rest 20 (not_dst rfl), d21, d22, d23, d24, d25, d26, d27, d28, d29, d30, d31, d32, d33, d34, d35, d36, d37, d38, d39, d40, d41, d42, d43, d44, d45, d46, d47, d48, d49, d50, d51, d52, d53, d54, d55, hl.rest 56 (not_dst rfl), hl.rest 57 (not_dst rfl), hl.rest 58 (not_dst rfl), hl.rest 59 (not_dst rfl), hl.rest 60 (not_dst rfl), hl.rest 61 (not_dst rfl), hl.rest 62 (not_dst rfl), hl.rest 63 (not_dst rfl), hl.rest 64 (not_dst rfl), hl.rest 65 (not_dst rfl), hl.rest 66 (not_dst rfl), hl.rest 67 (not_dst rfl), hl.rest 68 (not_dst rfl), hl.rest 69 (not_dst rfl), hl.rest 70 (not_dst rfl), hl.rest 71 (not_dst rfl), hl.rest 72 (not_dst rfl), hl.rest 73 (not_dst rfl), hl.rest 74 (not_dst rfl), hl.rest 75 (not_dst rfl), hl.rest 76 (not_dst rfl), trivial⟩
      clear hT hl
      subst ea
      have hK := hR.toKept hK (by simp)
      obtain ⟨q3, hq3, hr3⟩ := hR.reader
      clear hR
      have hk1 : k ≤ 36 := hk0
      clear hk0
      go_wp2_with fail
      all_goals
        refine (odd_any _ _ _ _ hr3 (by omega) (by omega)).mono ?_
        rintro e w6 ⟨x6, rfl, ⟨q6, hq6, hr6⟩, hk6⟩
        have hK := hK.trans hk6
        clear hk6 hr3
        cases x6
        · go_wp2
          go_ret
          exact ⟨_, rfl, ⟨_, by omega, hr6⟩, hK⟩
        · go_wp2_with fail
          refine (pick_any _ _ _ _ (hr6.alloc _) (by omega)).mono ?_
          rintro e w7 ⟨x7, rfl, hx7, hr7, hk7⟩
          have g7 := hx7 (by omega)
          obtain ⟨u, r0⟩ := hk7.row hr6.1 rfl x7.toNat (by simp; omega)
          have hK := (hK.alloc _).trans hk7
          clear hx7 hk7
          go_wp2
          go_ret
          exact ⟨_, rfl, ⟨_, by omega, hr7⟩, hK⟩
  · go_enter Try.func76, Try.ntmps76
    have H := Lib.hid hv
    clear hv
    go_wp2_with fail
    refine (s_formatValid_no _ _ _ H.out).mono ?_
    rintro e w1 ⟨rfl, hb⟩
    have hr1 := Rd.keepB (h.alloc _) hb
    have hK := ((Kept.refl B w).alloc _).trans (kept_of_below hb B)
    clear hb h
    go_wp2_with fail
    refine (pick_any _ _ _ _ hr1 (by omega)).mono ?_
    rintro e w7 ⟨x7, rfl, hx7, hr7, hk7⟩
    go_wp2
    go_ret
    exact ⟨_, rfl, ⟨_, by omega, hr7⟩, hK.trans hk7⟩

end Go.Proofs.Ytfllhncilfkamaa
