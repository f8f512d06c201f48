/-
  The draw of a format and a stored number for powers.
-/
import Derived.Test.YtfllhncilfkamaaDraws1
namespace Go.Proofs.Ytfllhncilfkamaa
open Go.RowKit

theorem shl_one {x : Int} (l : 0 ≤ x) (u : x ≤ 16) : NumIn 1 65536 (.int .i64 (2 ^ x.toNat)) :=
  have := Fx.pow_16 (k := x.toNat) (by omega)
  ⟨_, rfl, this.1, this.2⟩
theorem shl_one_raw {x : Int} (l : 0 ≤ x) (u : x ≤ 16) : NumIn 1 65536 (.int .i64 (IntKind.i64.wrap (2 ^ x.toNat))) := by
  have := Fx.pow_16 (k := x.toNat) (by omega)
  rw [IntWalk.i64_in _ (by omega)]
  exact ⟨_, rfl, this.1, this.2⟩

set_option linter.unusedVariables false in
def kindsPowA (S : List Nat) (B : Nat) (b0 : Nat) : Nat → Value → World → Prop
  | 0, v, _ => IsPair v
  | 1, v, _ => IsRd B v
  | 2, v, _ => NumIn 0 15 v
  | 3, v, _ => NumIn (-8) 7 v
  | 4, v, _ => v = .pointer (some ⟨b0, 1, none⟩)
  | 5, v, _ => NumIn 0 16 v
  | 6, v, _ => IsNum v
  | 7, v, _ => IsNum v
  | 8, v, _ => IsRd B v
  | 9, v, _ => NumIn 0 255 v
  | 10, v, _ => v = .pointer (some ⟨b0, 1, none⟩)
  | 11, v, _ => NumIn 0 16 v
  | 12, v, _ => NumIn 1 65536 v
  | 13, v, _ => IsNum v
  | 14, v, _ => IsNum v
  | 15, v, _ => True
  | 16, v, _ => IsNum v
  | _, _, _ => True
set_option linter.unusedVariables false in
theorem kindsPowA_keep (S : List Nat) (B b0 : Nat) (j : Nat) (v : Value) (w w' : World) (h : kindsPowA S B b0 j v w) (k : KeptS S w w') : kindsPowA S B b0 j v w' := by
  unfold kindsPowA at *
  split at h <;> first | exact h | exact h.keep k

set_option linter.unusedVariables false in
def kindsPowB (S : List Nat) (B : Nat) : Nat → Value → World → Prop
  | 0, v, _ => IsPair v
  | 1, v, _ => IsRd B v
  | 2, v, _ => IsPair v
  | 3, v, _ => IsNum v
  | 4, v, _ => True
  | 5, v, _ => IsNum v
  | _, _, _ => True
set_option linter.unusedVariables false in
theorem kindsPowB_keep (S : List Nat) (B : Nat) (j : Nat) (v : Value) (w w' : World) (h : kindsPowB S B j v w) (k : KeptS S w w') : kindsPowB S B j v w' := by
  unfold kindsPowB at *
  split at h <;> first | exact h | exact h.keep k

set_option maxHeartbeats 8000000 in
theorem drawPowerStored_any (a : Option Addr) (len cap : Nat) (zs : Nat → Int) (w : World) (h : Row8 w w.heap.size a len cap zs) :
    Calls Try.prog 48 #[.slice a len cap] w (DrewFI w) := by
  have H := Lib.hid h
  clear h
  go_enter Try.func48, Try.ntmps48
  go_wp2_with fail
  refine (l20Open_at _ _ _ _ w.heap.size _ (H.out.through ((Below.refl _ _).alloc (Nat.le_refl _) _)) (by simp)).mono ?_
  rintro e w1 ⟨B, hB, rfl, hr, hk, ha⟩
  have hx := Box.opened hB hr hk (ha _ (Nat.le_refl _)) rfl
  have hK := ((Kept.refl B w).alloc _).trans hk
  have hB : w.heap.size ≤ B := by simp at hB; omega
  clear hk ha H
  go_wp2_with fail
  refine (l20Format_any _ _ _ _ hr (by omega) (by omega)).mono ?_
  rintro e w2 ⟨f1, f2, rfl, ⟨q, hq, hr2⟩, hk2⟩
  have hlt : w.heap.size < w2.heap.size := (hx.keep hk2).1.1
  have hx := (hx.keep hk2).alloc (.cells #[.int .i64 f1, .int .i64 f2] 52)
  have hy := Box.made (.int .i64 f1) (.int .i64 f2) 52 hr2
  have hK := (hK.trans hk2).alloc (.cells #[.int .i64 f1, .int .i64 f2] 52)
  have hr3 := hr2.alloc (.cells #[.int .i64 f1, .int .i64 f2] 52)
  have hne : w.heap.size ≠ w2.heap.size := Nat.ne_of_lt hlt
  have hBw : w2.heap.size ≠ B := hy.1.2.1
  clear hk2 hr2 hr
  go_wp2_with fail
  refine (pick_any _ _ _ _ hr3 (by omega)).mono ?_
  rintro e w3 ⟨x3, rfl, hx3, hr4, hk3⟩
  have hx := hx.keep hk3
  have hy := hy.keep hk3
  have hK := hK.trans hk3
  clear hk3 hr3 hx3
  by_cases h3 : x3 = 0
  · have g3 : (x3 == 0) = true := by simpa using h3
    obtain ⟨⟨s0, s1, -⟩, ⟨c0, c1⟩, z0, z1⟩ := id hy
    by_cases hv : (1 ≤ f1 ∧ f1 ≤ 12) ∧ 0 ≤ f2 ∧ f2 ≤ 16
    · go_wp2_with fail
      refine (s_formatValid_yes _ _ _ hv).mono ?_
      rintro e w4 ⟨rfl, hb4⟩
      have hx := hx.keep (kept_of_below hb4 B)
      have hy := hy.keep (kept_of_below hb4 B)
      have hK := hK.trans (kept_of_below hb4 B)
      have hr5 := Rd.keepB hr4 hb4
      clear hb4 hr4 s0 s1 c0 c1 z0 z1
      have lf2 : 0 ≤ f2 := hv.2.1
      have uf2 : f2 ≤ 16 := hv.2.2
      clear hv
      obtain ⟨⟨s0, s1, -⟩, ⟨c0, c1⟩, z0, z1⟩ := id hy
      go_wp2_with fail
      have hY := staysS_cell (S := [B, w.heap.size]) (b := w2.heap.size) (o := 1) (v := .int .i64 f2) (by simp; omega)
      have hBS : B ∈ [B, w.heap.size] := by simp
      refine Fxr.wp_region_typed (kindsPowA [B, w.heap.size] B w2.heap.size) (ReadsP [B, w.heap.size] _ B (q+1) 1000 [w.heap.size, w2.heap.size] (fun w' => w2.heap.size < w'.heap.size ∧ w'.cell? ⟨w2.heap.size, 1, none⟩ = some (.int .i64 f2))) (KeptS [B, w.heap.size]) (by kernel_rfl) (by kernel_rfl) (by kernel_rfl) rfl (kindsPowA_keep _ _ _)
        ⟨⟨q+1, by omega, hr5⟩, (KeptS.refl _ _).drewN 1, by have := hr5.1; have := hx.1.1; simp at *; omega, (Pairs.cons hx (Pairs.cons hy (Pairs.none _ _))).drewN 1, ⟨hy.1.1, hy.2.1.2⟩, rfl⟩ ?_ ?_
      · have hB := hBS
        clear hK hx hy hr5 hBS s0 s1 c0 c1 z0 z1
        refine ⟨?_, ?_, ?_, ?_, ?_, ?_, ?_, ?_, ?_, ?_, ?_, ?_, ?_, ?_, ?_, ?_, ?_, trivial⟩
        · intro a wr k hk hl hR hd hold
          have d5 : a.tmps.getD 5 undef = .pointer (some ⟨w2.heap.size, 0, none⟩) := hl.rest 5 (not_dst rfl)
          refine wpOp_at _ rfl rfl ?_
          have f5 := getD_form d5
          obtain ⟨x0, y0, ⟨t0, t1, -⟩, ⟨e0, e1⟩, f0, f1⟩ := hR.pairs w2.heap.size (by simp)
          clear hl hd hold hk
          go_simp
          exact ⟨_, rfl, ⟨_, _, rfl⟩, hR.next (by decide), KeptS.refl _ _⟩
        · intro a wr k hk hl hR hd hold
          have d4 : a.tmps.getD 4 undef = .pointer (some ⟨_, 0, none⟩) := hl.rest 4 (not_dst rfl)
          refine wpOp_at _ rfl rfl ?_
          have f4 := getD_form d4
          clear hl hd hold hk
          go_simp
          exact ⟨_, rfl, rfl, hR.next (by decide), KeptS.refl _ _⟩
        · intro a wr k hk hl hR hd hold
          have d18 : a.tmps.getD 18 undef = .pointer (some ⟨_, 0, none⟩) := hd ⟨1, .data⟩ (by simp) rfl
          refine wpOp_at _ rfl rfl ?_
          have f18 := getD_form d18
          obtain ⟨q0, hq0, hr0⟩ := hR.reader
          have hk0 : k < 17 := hk
          clear hl hd hold hk
          go_simp
          refine (pick_any _ _ _ _ hr0 (by omega)).mono ?_
          rintro e w1 ⟨x, rfl, hx, hr1, hk1⟩
          have hx1 := hx (by omega)
          exact ⟨_, rfl, ⟨x, rfl, hx1.1, by omega⟩, hR.gone hY hB (by omega) hr1 hk1, hk1.toS hB⟩
        · intro a wr k hk hl hR hd hold
          obtain ⟨x19, d19, l19, u19⟩ : NumIn 0 15 (a.tmps.getD 19 undef) := hd ⟨2, .data⟩ (by simp) rfl
          refine wpOp_at _ rfl rfl ?_
          have f19 := getD_form d19
          clear hl hd hold hk
          go_simp
          exact ⟨_, rfl, ⟨_, rfl, by rw [IntWalk.i64_in _ (by omega)]; omega, by rw [IntWalk.i64_in _ (by omega)]; omega⟩, hR.next (by decide), KeptS.refl _ _⟩
        · intro a wr k hk hl hR hd hold
          have d5 : a.tmps.getD 5 undef = .pointer (some ⟨w2.heap.size, 0, none⟩) := hl.rest 5 (not_dst rfl)
          refine wpOp_at _ rfl rfl ?_
          have f5 := getD_form d5
          clear hl hd hold hk
          go_simp
          exact ⟨_, rfl, rfl, hR.next (by decide), KeptS.refl _ _⟩
        · intro a wr k hk hl hR hd hold
          have d21 : a.tmps.getD 21 undef = .pointer (some ⟨w2.heap.size, 1, none⟩) := hd ⟨4, .data⟩ (by simp) rfl
          refine wpOp_at _ rfl rfl ?_
          have f21 := getD_form d21
          obtain ⟨e0, e1⟩ := hR.more
          clear hl hd hold hk
          go_simp
          exact ⟨_, rfl, ⟨_, rfl, lf2, uf2⟩, hR.next (by decide), KeptS.refl _ _⟩
        · intro a wr k hk hl hR hd hold
          obtain ⟨x20, d20, l20, u20⟩ : NumIn (-8) 7 (a.tmps.getD 20 undef) := hd ⟨3, .data⟩ (by simp) rfl
          obtain ⟨x22, d22, l22, u22⟩ : NumIn 0 16 (a.tmps.getD 22 undef) := hd ⟨5, .data⟩ (by simp) rfl
          refine wpOp_at _ rfl rfl ?_
          have f20 := getD_form d20
          have f22 := getD_form d22
          clear hl hd hold hk
          go_simp
          exact ⟨_, rfl, ⟨_, rfl⟩, hR.next (by decide), KeptS.refl _ _⟩
        · intro a wr k hk hl hR hd hold
          obtain ⟨x23, d23⟩ : IsNum (a.tmps.getD 23 undef) := hd ⟨6, .data⟩ (by simp) rfl
          refine wpOp_at _ rfl rfl ?_
          have f23 := getD_form d23
          clear hl hd hold hk
          go_simp
          exact ⟨_, rfl, ⟨_, rfl⟩, hR.next (by decide), KeptS.refl _ _⟩
        · intro a wr k hk hl hR hd hold
          have d4 : a.tmps.getD 4 undef = .pointer (some ⟨_, 0, none⟩) := hl.rest 4 (not_dst rfl)
          refine wpOp_at _ rfl rfl ?_
          have f4 := getD_form d4
          clear hl hd hold hk
          go_simp
          exact ⟨_, rfl, rfl, hR.next (by decide), KeptS.refl _ _⟩
        · intro a wr k hk hl hR hd hold
          have d25 : a.tmps.getD 25 undef = .pointer (some ⟨_, 0, none⟩) := hd ⟨8, .data⟩ (by simp) rfl
          refine wpOp_at _ rfl rfl ?_
          have f25 := getD_form d25
          obtain ⟨q0, hq0, hr0⟩ := hR.reader
          have hk0 : k < 17 := hk
          clear hl hd hold hk
          go_simp
          refine (pick_any _ _ _ _ hr0 (by omega)).mono ?_
          rintro e w1 ⟨x, rfl, hx, hr1, hk1⟩
          have hx1 := hx (by omega)
          exact ⟨_, rfl, ⟨x, rfl, hx1.1, by omega⟩, hR.gone hY hB (by omega) hr1 hk1, hk1.toS hB⟩
        · intro a wr k hk hl hR hd hold
          have d5 : a.tmps.getD 5 undef = .pointer (some ⟨w2.heap.size, 0, none⟩) := hl.rest 5 (not_dst rfl)
          refine wpOp_at _ rfl rfl ?_
          have f5 := getD_form d5
          clear hl hd hold hk
          go_simp
          exact ⟨_, rfl, rfl, hR.next (by decide), KeptS.refl _ _⟩
        · intro a wr k hk hl hR hd hold
          have d27 : a.tmps.getD 27 undef = .pointer (some ⟨w2.heap.size, 1, none⟩) := hd ⟨10, .data⟩ (by simp) rfl
          refine wpOp_at _ rfl rfl ?_
          have f27 := getD_form d27
          obtain ⟨e0, e1⟩ := hR.more
          clear hl hd hold hk
          go_simp
          exact ⟨_, rfl, ⟨_, rfl, lf2, uf2⟩, hR.next (by decide), KeptS.refl _ _⟩
        · intro a wr k hk hl hR hd hold
          obtain ⟨x28, d28, l28, u28⟩ : NumIn 0 16 (a.tmps.getD 28 undef) := hd ⟨11, .data⟩ (by simp) rfl
          refine wpOp_at _ rfl rfl ?_
          have f28 := getD_form d28
          clear hl hd hold hk
          go_simp
          exact ⟨_, rfl, (by first | exact shl_one l28 u28 | exact shl_one_raw l28 u28), hR.next (by decide), KeptS.refl _ _⟩
        · intro a wr k hk hl hR hd hold
          obtain ⟨x26, d26, l26, u26⟩ : NumIn 0 255 (a.tmps.getD 26 undef) := hd ⟨9, .data⟩ (by simp) rfl
          obtain ⟨x29, d29, l29, u29⟩ : NumIn 1 65536 (a.tmps.getD 29 undef) := hd ⟨12, .data⟩ (by simp) rfl
          refine wpOp_at _ rfl rfl ?_
          have f26 := getD_form d26
          have f29 := getD_form d29
          have z29 : x29 ≠ 0 := by omega
          have y29 : (x29 == 0) = false := by simpa using z29
          clear hl hd hold hk
          go_simp
          exact ⟨_, rfl, ⟨_, rfl⟩, hR.next (by decide), KeptS.refl _ _⟩
        · intro a wr k hk hl hR hd hold
          obtain ⟨x24, d24⟩ : IsNum (a.tmps.getD 24 undef) := hd ⟨7, .data⟩ (by simp) rfl
          obtain ⟨x30, d30⟩ : IsNum (a.tmps.getD 30 undef) := hd ⟨13, .data⟩ (by simp) rfl
          refine wpOp_at _ rfl rfl ?_
          have f24 := getD_form d24
          have f30 := getD_form d30
          clear hl hd hold hk
          go_simp
          exact ⟨_, rfl, ⟨_, rfl⟩, hR.next (by decide), KeptS.refl _ _⟩
        · intro a wr k hk hl hR hd hold
          have d2 : a.tmps.getD 2 undef = .pointer (some ⟨w.heap.size, 0, none⟩) := hl.rest 2 (not_dst rfl)
          obtain ⟨x17, y17, d17⟩ : IsPair (a.tmps.getD 17 undef) := hd ⟨0, .data⟩ (by simp) rfl
          refine wpOp_at _ rfl rfl ?_
          have f2 := getD_form d2
          have f17 := getD_form d17
          obtain ⟨x0, y0, ⟨t0, t1, -⟩, ⟨e0, e1⟩, f0, f1⟩ := hR.pairs w.heap.size (by simp)
          clear hl hd hold hk
          go_simp
          exact ⟨⟨undef, trivial⟩, hR.put (by decide) hY (b := w.heap.size) (by simp) (by simp) x17 y17, keptS_put2 (b := w.heap.size) (by simp) _ _⟩
        · intro a wr k hk hl hR hd hold
          obtain ⟨x31, d31⟩ : IsNum (a.tmps.getD 31 undef) := hd ⟨14, .data⟩ (by simp) rfl
          refine wpOp_at _ rfl rfl ?_
          have f31 := getD_form d31
          clear hl hd hold hk
          go_simp
          exact ⟨_, rfl, ⟨_, rfl⟩, hR.next (by decide), KeptS.refl _ _⟩
      ·
        intro a wr k hk0 hl hR hT
        obtain ⟨x3, d3⟩ : IsNum (a.tmps.getD 3 undef) := hT 16 (by decide)
        obtain ⟨x17, y17, d17⟩ : IsPair (a.tmps.getD 17 undef) := hT 0 (by decide)
        have d18 : a.tmps.getD 18 undef = .pointer (some ⟨_, 0, none⟩) := hT 1 (by decide)
        obtain ⟨x19, d19, l19, u19⟩ : NumIn 0 15 (a.tmps.getD 19 undef) := hT 2 (by decide)
        obtain ⟨x20, d20, l20, u20⟩ : NumIn (-8) 7 (a.tmps.getD 20 undef) := hT 3 (by decide)
        have d21 : a.tmps.getD 21 undef = .pointer (some ⟨w2.heap.size, 1, none⟩) := hT 4 (by decide)
        obtain ⟨x22, d22, l22, u22⟩ : NumIn 0 16 (a.tmps.getD 22 undef) := hT 5 (by decide)
        obtain ⟨x23, d23⟩ : IsNum (a.tmps.getD 23 undef) := hT 6 (by decide)
        obtain ⟨x24, d24⟩ : IsNum (a.tmps.getD 24 undef) := hT 7 (by decide)
        have d25 : a.tmps.getD 25 undef = .pointer (some ⟨_, 0, none⟩) := hT 8 (by decide)
        obtain ⟨x26, d26, l26, u26⟩ : NumIn 0 255 (a.tmps.getD 26 undef) := hT 9 (by decide)
        have d27 : a.tmps.getD 27 undef = .pointer (some ⟨w2.heap.size, 1, none⟩) := hT 10 (by decide)
        obtain ⟨x28, d28, l28, u28⟩ : NumIn 0 16 (a.tmps.getD 28 undef) := hT 11 (by decide)
        obtain ⟨x29, d29, l29, u29⟩ : NumIn 1 65536 (a.tmps.getD 29 undef) := hT 12 (by decide)
        obtain ⟨x30, d30⟩ : IsNum (a.tmps.getD 30 undef) := hT 13 (by decide)
        obtain ⟨x31, d31⟩ : IsNum (a.tmps.getD 31 undef) := hT 14 (by decide)
        have ea := Fxr.act_ext a [_, _, _, _, _, _, _, _, _, _, _, _, _, _, _, _, _, _, _, _, _, _, _, _, _, _, _, _, _, _, _, _, _, _, _, _] hl.defers (by exact hl.size) ⟨hl.rest 0 (not_dst rfl), hl.rest 1 (not_dst rfl), hl.rest 2 (not_dst rfl), d3, hl.rest 4 (not_dst rfl), hl.rest 5 (not_dst rfl), hl.rest 6 (not_dst rfl), hl.rest 7 (not_dst rfl), hl.rest 8 (not_dst rfl), hl.rest 9 (not_dst rfl), hl.rest 10 (not_dst rfl), hl.rest 11 (not_dst rfl), hl.rest 12 (not_dst rfl), hl.rest 13 (not_dst rfl), hl.rest 14 (not_dst rfl), hl.rest 15 (not_dst rfl), hl.rest 16 (not_dst rfl), d17, d18, d19, d20, d21, d22, d23, d24, d25, d26, d27, d28, d29, d30, d31, hl.rest 32 (not_dst rfl), hl.rest 33 (not_dst rfl), hl.rest 34 (not_dst rfl), hl.rest 35 (not_dst rfl), trivial⟩
        clear hT hl
        subst ea
        have hK := hR.toKept hK (by simp)
        obtain ⟨xa, ya, -, ⟨e0, e1⟩, -⟩ := hR.pairs w.heap.size (by simp)
        clear hR hx hy hr5 hBS s0 s1 c0 c1 z0 z1
        go_wp2
        (try simp only [Exit.inBlock, Exit.then])
        exact bodyPost_ret (v := .tuple #[.agg #[.int .i64 xa, .int .i64 ya], .int .i64 x3]) (by simp [results, Try.results48, go_sem, e0, e1]) rfl ⟨_, _, _, rfl, hK.below hB (Nat.le_refl _)⟩
    · have V := Lib.hid hv
      clear hv
      go_wp2_with fail
      refine (s_formatValid_no _ _ _ V.out).mono ?_
      rintro e w4 ⟨rfl, hb4⟩
      have hx := hx.keep (kept_of_below hb4 B)
      have hy := hy.keep (kept_of_below hb4 B)
      have hK := hK.trans (kept_of_below hb4 B)
      have hr5 := Rd.keepB hr4 hb4
      clear hb4 hr4 s0 s1 c0 c1 z0 z1
      go_wp2_with fail
      have hY := staysS_true [B, w.heap.size]
      have hBS : B ∈ [B, w.heap.size] := by simp
      refine Fxr.wp_region_typed (kindsPowB [B, w.heap.size] B) (ReadsP [B, w.heap.size] _ B (q+1) 1000 [w.heap.size, w2.heap.size] (fun _ => True)) (KeptS [B, w.heap.size]) (by kernel_rfl) (by kernel_rfl) (by kernel_rfl) rfl (kindsPowB_keep _ _)
        ⟨⟨q+1, by omega, hr5⟩, (KeptS.refl _ _).drewN 1, by have := hr5.1; have := hx.1.1; simp at *; omega, (Pairs.cons hx (Pairs.cons hy (Pairs.none _ _))).drewN 1, trivial, rfl⟩ ?_ ?_
      · have hB := hBS
        clear hK hx hy hr5 hBS
        refine ⟨?_, ?_, ?_, ?_, ?_, ?_, trivial⟩
        · intro a wr k hk hl hR hd hold
          have d5 : a.tmps.getD 5 undef = .pointer (some ⟨w2.heap.size, 0, none⟩) := hl.rest 5 (not_dst rfl)
          refine wpOp_at _ rfl rfl ?_
          have f5 := getD_form d5
          obtain ⟨x0, y0, ⟨t0, t1, -⟩, ⟨e0, e1⟩, f0, f1⟩ := hR.pairs w2.heap.size (by simp)
          clear hl hd hold hk
          go_simp
          exact ⟨_, rfl, ⟨_, _, rfl⟩, hR.next (by decide), KeptS.refl _ _⟩
        · intro a wr k hk hl hR hd hold
          have d4 : a.tmps.getD 4 undef = .pointer (some ⟨_, 0, none⟩) := hl.rest 4 (not_dst rfl)
          refine wpOp_at _ rfl rfl ?_
          have f4 := getD_form d4
          clear hl hd hold hk
          go_simp
          exact ⟨_, rfl, rfl, hR.next (by decide), KeptS.refl _ _⟩
        · intro a wr k hk hl hR hd hold
          have d5 : a.tmps.getD 5 undef = .pointer (some ⟨w2.heap.size, 0, none⟩) := hl.rest 5 (not_dst rfl)
          refine wpOp_at _ rfl rfl ?_
          have f5 := getD_form d5
          obtain ⟨x0, y0, ⟨t0, t1, -⟩, ⟨e0, e1⟩, f0, f1⟩ := hR.pairs w2.heap.size (by simp)
          clear hl hd hold hk
          go_simp
          exact ⟨_, rfl, ⟨_, _, rfl⟩, hR.next (by decide), KeptS.refl _ _⟩
        · intro a wr k hk hl hR hd hold
          have d33 : a.tmps.getD 33 undef = .pointer (some ⟨_, 0, none⟩) := hd ⟨1, .data⟩ (by simp) rfl
          obtain ⟨x34, y34, d34⟩ : IsPair (a.tmps.getD 34 undef) := hd ⟨2, .data⟩ (by simp) rfl
          refine wpOp_at _ rfl rfl ?_
          have f33 := getD_form d33
          have f34 := getD_form d34
          obtain ⟨q0, hq0, hr0⟩ := hR.reader
          have hk0 : k < 6 := hk
          clear hl hd hold hk
          go_simp
          refine (l20Stored_any _ _ _ _ _ _ hr0 (by omega) (by omega)).mono ?_
          rintro e w1 ⟨x, rfl, ⟨q1, hq1, hr1⟩, hk1⟩
          exact ⟨_, rfl, ⟨x, rfl⟩, hR.gone hY hB (by omega) hr1 hk1, hk1.toS hB⟩
        · intro a wr k hk hl hR hd hold
          have d2 : a.tmps.getD 2 undef = .pointer (some ⟨w.heap.size, 0, none⟩) := hl.rest 2 (not_dst rfl)
          obtain ⟨x32, y32, d32⟩ : IsPair (a.tmps.getD 32 undef) := hd ⟨0, .data⟩ (by simp) rfl
          refine wpOp_at _ rfl rfl ?_
          have f2 := getD_form d2
          have f32 := getD_form d32
          obtain ⟨x0, y0, ⟨t0, t1, -⟩, ⟨e0, e1⟩, f0, f1⟩ := hR.pairs w.heap.size (by simp)
          clear hl hd hold hk
          go_simp
          exact ⟨⟨undef, trivial⟩, hR.put (by decide) hY (b := w.heap.size) (by simp) (by simp) x32 y32, keptS_put2 (b := w.heap.size) (by simp) _ _⟩
        · intro a wr k hk hl hR hd hold
          obtain ⟨x35, d35⟩ : IsNum (a.tmps.getD 35 undef) := hd ⟨3, .data⟩ (by simp) rfl
          refine wpOp_at _ rfl rfl ?_
          have f35 := getD_form d35
          clear hl hd hold hk
          go_simp
          exact ⟨_, rfl, ⟨_, rfl⟩, hR.next (by decide), KeptS.refl _ _⟩
      ·
        intro a wr k hk0 hl hR hT
        obtain ⟨x3, d3⟩ : IsNum (a.tmps.getD 3 undef) := hT 5 (by decide)
        obtain ⟨x32, y32, d32⟩ : IsPair (a.tmps.getD 32 undef) := hT 0 (by decide)
        have d33 : a.tmps.getD 33 undef = .pointer (some ⟨_, 0, none⟩) := hT 1 (by decide)
        obtain ⟨x34, y34, d34⟩ : IsPair (a.tmps.getD 34 undef) := hT 2 (by decide)
        obtain ⟨x35, d35⟩ : IsNum (a.tmps.getD 35 undef) := hT 3 (by decide)
        have ea := Fxr.act_ext a [_, _, _, _, _, _, _, _, _, _, _, _, _, _, _, _, _, _, _, _, _, _, _, _, _, _, _, _, _, _, _, _, _, _, _, _] hl.defers (by exact hl.size) ⟨hl.rest 0 (not_dst rfl), hl.rest 1 (not_dst rfl), hl.rest 2 (not_dst rfl), d3, hl.rest 4 (not_dst rfl), hl.rest 5 (not_dst rfl), hl.rest 6 (not_dst rfl), hl.rest 7 (not_dst rfl), hl.rest 8 (not_dst rfl), hl.rest 9 (not_dst rfl), hl.rest 10 (not_dst rfl), hl.rest 11 (not_dst rfl), hl.rest 12 (not_dst rfl), hl.rest 13 (not_dst rfl), hl.rest 14 (not_dst rfl), hl.rest 15 (not_dst rfl), hl.rest 16 (not_dst rfl), hl.rest 17 (not_dst rfl), hl.rest 18 (not_dst rfl), hl.rest 19 (not_dst rfl), hl.rest 20 (not_dst rfl), hl.rest 21 (not_dst rfl), hl.rest 22 (not_dst rfl), hl.rest 23 (not_dst rfl), hl.rest 24 (not_dst rfl), hl.rest 25 (not_dst rfl), hl.rest 26 (not_dst rfl), hl.rest 27 (not_dst rfl), hl.rest 28 (not_dst rfl), hl.rest 29 (not_dst rfl), hl.rest 30 (not_dst rfl), hl.rest 31 (not_dst rfl), d32, d33, d34, d35, trivial⟩
        clear hT hl
        subst ea
        have hK := hR.toKept hK (by simp)
        obtain ⟨xa, ya, -, ⟨e0, e1⟩, -⟩ := hR.pairs w.heap.size (by simp)
        clear hR hx hy hr5 hBS
        go_wp2
        (try simp only [Exit.inBlock, Exit.then])
        exact bodyPost_ret (v := .tuple #[.agg #[.int .i64 xa, .int .i64 ya], .int .i64 x3]) (by simp [results, Try.results48, go_sem, e0, e1]) rfl ⟨_, _, _, rfl, hK.below hB (Nat.le_refl _)⟩
  · have g3 : (x3 == 0) = false := by simpa using h3
    go_wp2_with fail
    have hY := staysS_true [B, w.heap.size]
    have hBS : B ∈ [B, w.heap.size] := by simp
    refine Fxr.wp_region_typed (kindsPowB [B, w.heap.size] B) (ReadsP [B, w.heap.size] _ B (q+1) 1000 [w.heap.size, w2.heap.size] (fun _ => True)) (KeptS [B, w.heap.size]) (by kernel_rfl) (by kernel_rfl) (by kernel_rfl) rfl (kindsPowB_keep _ _)
      ⟨⟨q+1, by omega, hr4⟩, (KeptS.refl _ _).drewN 1, by have := hr4.1; have := hx.1.1; simp at *; omega, (Pairs.cons hx (Pairs.cons hy (Pairs.none _ _))).drewN 1, trivial, rfl⟩ ?_ ?_
    · have hB := hBS
      clear hK hx hy hr4 hBS
      refine ⟨?_, ?_, ?_, ?_, ?_, ?_, trivial⟩
      · intro a wr k hk hl hR hd hold
        have d5 : a.tmps.getD 5 undef = .pointer (some ⟨w2.heap.size, 0, none⟩) := hl.rest 5 (not_dst rfl)
        refine wpOp_at _ rfl rfl ?_
        have f5 := getD_form d5
        obtain ⟨x0, y0, ⟨t0, t1, -⟩, ⟨e0, e1⟩, f0, f1⟩ := hR.pairs w2.heap.size (by simp)
        clear hl hd hold hk
        go_simp
        exact ⟨_, rfl, ⟨_, _, rfl⟩, hR.next (by decide), KeptS.refl _ _⟩
      · intro a wr k hk hl hR hd hold
        have d4 : a.tmps.getD 4 undef = .pointer (some ⟨_, 0, none⟩) := hl.rest 4 (not_dst rfl)
        refine wpOp_at _ rfl rfl ?_
        have f4 := getD_form d4
        clear hl hd hold hk
        go_simp
        exact ⟨_, rfl, rfl, hR.next (by decide), KeptS.refl _ _⟩
      · intro a wr k hk hl hR hd hold
        have d5 : a.tmps.getD 5 undef = .pointer (some ⟨w2.heap.size, 0, none⟩) := hl.rest 5 (not_dst rfl)
        refine wpOp_at _ rfl rfl ?_
        have f5 := getD_form d5
        obtain ⟨x0, y0, ⟨t0, t1, -⟩, ⟨e0, e1⟩, f0, f1⟩ := hR.pairs w2.heap.size (by simp)
        clear hl hd hold hk
        go_simp
        exact ⟨_, rfl, ⟨_, _, rfl⟩, hR.next (by decide), KeptS.refl _ _⟩
      · intro a wr k hk hl hR hd hold
        have d33 : a.tmps.getD 33 undef = .pointer (some ⟨_, 0, none⟩) := hd ⟨1, .data⟩ (by simp) rfl
        obtain ⟨x34, y34, d34⟩ : IsPair (a.tmps.getD 34 undef) := hd ⟨2, .data⟩ (by simp) rfl
        refine wpOp_at _ rfl rfl ?_
        have f33 := getD_form d33
        have f34 := getD_form d34
        obtain ⟨q0, hq0, hr0⟩ := hR.reader
        have hk0 : k < 6 := hk
        clear hl hd hold hk
        go_simp
        refine (l20Stored_any _ _ _ _ _ _ hr0 (by omega) (by omega)).mono ?_
        rintro e w1 ⟨x, rfl, ⟨q1, hq1, hr1⟩, hk1⟩
        exact ⟨_, rfl, ⟨x, rfl⟩, hR.gone hY hB (by omega) hr1 hk1, hk1.toS hB⟩
      · intro a wr k hk hl hR hd hold
        have d2 : a.tmps.getD 2 undef = .pointer (some ⟨w.heap.size, 0, none⟩) := hl.rest 2 (not_dst rfl)
        obtain ⟨x32, y32, d32⟩ : IsPair (a.tmps.getD 32 undef) := hd ⟨0, .data⟩ (by simp) rfl
        refine wpOp_at _ rfl rfl ?_
        have f2 := getD_form d2
        have f32 := getD_form d32
        obtain ⟨x0, y0, ⟨t0, t1, -⟩, ⟨e0, e1⟩, f0, f1⟩ := hR.pairs w.heap.size (by simp)
        clear hl hd hold hk
        go_simp
        exact ⟨⟨undef, trivial⟩, hR.put (by decide) hY (b := w.heap.size) (by simp) (by simp) x32 y32, keptS_put2 (b := w.heap.size) (by simp) _ _⟩
      · intro a wr k hk hl hR hd hold
        obtain ⟨x35, d35⟩ : IsNum (a.tmps.getD 35 undef) := hd ⟨3, .data⟩ (by simp) rfl
        refine wpOp_at _ rfl rfl ?_
        have f35 := getD_form d35
        clear hl hd hold hk
        go_simp
        exact ⟨_, rfl, ⟨_, rfl⟩, hR.next (by decide), KeptS.refl _ _⟩
    ·
      intro a wr k hk0 hl hR hT
      obtain ⟨x3, d3⟩ : IsNum (a.tmps.getD 3 undef) := hT 5 (by decide)
      obtain ⟨x32, y32, d32⟩ : IsPair (a.tmps.getD 32 undef) := hT 0 (by decide)
      have d33 : a.tmps.getD 33 undef = .pointer (some ⟨_, 0, none⟩) := hT 1 (by decide)
      obtain ⟨x34, y34, d34⟩ : IsPair (a.tmps.getD 34 undef) := hT 2 (by decide)
      obtain ⟨x35, d35⟩ : IsNum (a.tmps.getD 35 undef) := hT 3 (by decide)
      have ea := Fxr.act_ext a [_, _, _, _, _, _, _, _, _, _, _, _, _, _, _, _, _, _, _, _, _, _, _, _, _, _, _, _, _, _, _, _, _, _, _, _] hl.defers (by exact hl.size) ⟨hl.rest 0 (not_dst rfl), hl.rest 1 (not_dst rfl), hl.rest 2 (not_dst rfl), d3, hl.rest 4 (not_dst rfl), hl.rest 5 (not_dst rfl), hl.rest 6 (not_dst rfl), hl.rest 7 (not_dst rfl), hl.rest 8 (not_dst rfl), hl.rest 9 (not_dst rfl), hl.rest 10 (not_dst rfl), hl.rest 11 (not_dst rfl), hl.rest 12 (not_dst rfl), hl.rest 13 (not_dst rfl), hl.rest 14 (not_dst rfl), hl.rest 15 (not_dst rfl), hl.rest 16 (not_dst rfl), hl.rest 17 (not_dst rfl), hl.rest 18 (not_dst rfl), hl.rest 19 (not_dst rfl), hl.rest 20 (not_dst rfl), hl.rest 21 (not_dst rfl), hl.rest 22 (not_dst rfl), hl.rest 23 (not_dst rfl), hl.rest 24 (not_dst rfl), hl.rest 25 (not_dst rfl), hl.rest 26 (not_dst rfl), hl.rest 27 (not_dst rfl), hl.rest 28 (not_dst rfl), hl.rest 29 (not_dst rfl), hl.rest 30 (not_dst rfl), hl.rest 31 (not_dst rfl), d32, d33, d34, d35, trivial⟩
      clear hT hl
      subst ea
      have hK := hR.toKept hK (by simp)
      obtain ⟨xa, ya, -, ⟨e0, e1⟩, -⟩ := hR.pairs w.heap.size (by simp)
      clear hR hx hy hr4 hBS
      go_wp2
      (try simp only [Exit.inBlock, Exit.then])
      exact bodyPost_ret (v := .tuple #[.agg #[.int .i64 xa, .int .i64 ya], .int .i64 x3]) (by simp [results, Try.results48, go_sem, e0, e1]) rfl ⟨_, _, _, rfl, hK.below hB (Nat.le_refl _)⟩

end Go.Proofs.Ytfllhncilfkamaa
