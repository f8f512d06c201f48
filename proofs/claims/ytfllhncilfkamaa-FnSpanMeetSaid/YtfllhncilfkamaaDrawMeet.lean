/-
  The draw of two spans that may meet.
-/
import Derived.Test.YtfllhncilfkamaaDrawSpans
import Derived.Test.YtfllhncilfkamaaSpan
namespace Go.Proofs.Ytfllhncilfkamaa
open Go.RowKit

set_option linter.unusedVariables false in
def kindsMeetA (S : List Nat) (B : Nat) (b0 : Nat) : Nat → Value → World → Prop
  | 0, v, _ => IsPair v
  | 1, v, _ => v = .pointer (some ⟨b0, 0, none⟩)
  | 2, v, _ => IsNum v
  | 3, v, _ => IsRd B v
  | 4, v, _ => NumIn 0 8 v
  | 5, v, _ => IsNum v
  | 6, v, _ => IsNum v
  | 7, v, _ => v = .pointer (some ⟨b0, 0, none⟩)
  | 8, v, _ => IsNum v
  | 9, v, _ => IsRd B v
  | 10, v, _ => NumIn 0 8 v
  | 11, v, _ => IsNum v
  | 12, v, _ => IsNum v
  | 13, v, _ => IsNum v
  | 14, v, _ => IsPair v
  | 15, v, _ => True
  | 16, v, _ => True
  | _, _, _ => True
set_option linter.unusedVariables false in
theorem kindsMeetA_keep (S : List Nat) (B b0 : Nat) (j : Nat) (v : Value) (w w' : World) (h : kindsMeetA S B b0 j v w) (k : KeptS S w w') : kindsMeetA S B b0 j v w' := by
  unfold kindsMeetA at *
  split at h <;> first | exact h | exact h.keep k

set_option linter.unusedVariables false in
def kindsMeetB (S : List Nat) (B : Nat) : Nat → Value → World → Prop
  | 0, v, _ => IsPair v
  | 1, v, _ => IsRd B v
  | 2, v, _ => IsPair v
  | 3, v, _ => True
  | 4, v, _ => True
  | _, _, _ => True
set_option linter.unusedVariables false in
theorem kindsMeetB_keep (S : List Nat) (B : Nat) (j : Nat) (v : Value) (w w' : World) (h : kindsMeetB S B j v w) (k : KeptS S w w') : kindsMeetB S B j v w' := by
  unfold kindsMeetB at *
  split at h <;> first | exact h | exact h.keep k

set_option maxHeartbeats 8000000 in
theorem drawSpanMeet_any (a : Option Addr) (len cap : Nat) (zs : Nat → Int) (w : World) (h : Row8 w w.heap.size a len cap zs) :
    Calls Try.prog 23 #[.slice a len cap] w (DrewSS w) := by
  have H := Lib.hid h
  clear h
  go_enter Try.func23, Try.ntmps23
  go_wp2_with fail
  refine (l20Open_at _ _ _ _ w.heap.size _ (H.out.through (((Below.refl _ _).alloc (Nat.le_refl _) _).alloc (by simp) _)) (by simp; omega)).mono ?_
  rintro e w1 ⟨B, hB, rfl, hr, hk, ha⟩
  have hx := Box.opened2 (by simpa using hB) hr hk (ha _ (Nat.le_refl _)) rfl
  have hz := Box.opened hB hr hk (b := w.heap.size + 1) (ha _ (by simp)) (by simp)
  have hK := (((Kept.refl B w).alloc _).alloc _).trans hk
  have hB : w.heap.size ≤ B := by simp at hB; omega
  clear hk ha H
  go_wp2_with fail
  refine (l20Span_any _ _ _ _ hr (by omega) (by omega)).mono ?_
  rintro e w2 ⟨f1, f2, rfl, ⟨q, hq, hr2⟩, hk2⟩
  have hx := (hx.keep hk2).alloc (.cells #[.int .i64 f1, .int .i64 f2] 24)
  have hz := (hz.keep hk2).alloc (.cells #[.int .i64 f1, .int .i64 f2] 24)
  have hy := Box.made (.int .i64 f1) (.int .i64 f2) 24 hr2
  have hK := (hK.trans hk2).alloc (.cells #[.int .i64 f1, .int .i64 f2] 24)
  have hr3 := hr2.alloc (.cells #[.int .i64 f1, .int .i64 f2] 24)
  clear hk2 hr2 hr
  go_wp2_with fail
  refine (pick_any _ _ _ _ hr3 (by omega)).mono ?_
  rintro e w3 ⟨x3, rfl, hx3, hr4, hk3⟩
  have hx := hx.keep hk3
  have hy := hy.keep hk3
  have hz := hz.keep hk3
  have hK := hK.trans hk3
  clear hk3 hr3 hx3
  by_cases h3 : x3 = 0
  · have e3 : (x3 == 0) = true := by simpa using h3
    obtain ⟨⟨t0, t1, -⟩, ⟨d0, d1⟩, k0, k1⟩ := id hy
    by_cases hv : Fx.svalid f1 f2
    · have V := Lib.hid hv
      clear hv
      go_wp2_with fail
      refine (s_spanValid_yes _ _ _ V.out).mono ?_
      rintro e w4 ⟨rfl, hb4⟩
      have hx := hx.keep (kept_of_below hb4 B)
      have hy := hy.keep (kept_of_below hb4 B)
      have hz := hz.keep (kept_of_below hb4 B)
      have hK := hK.trans (kept_of_below hb4 B)
      have hr5 := Rd.keepB hr4 hb4
      clear hb4 hr4 t0 t1 d0 d1 k0 k1
      go_wp2_with fail
      have hY := staysS_true [B, w.heap.size, w.heap.size+1]
      have hBS : B ∈ [B, w.heap.size, w.heap.size+1] := by simp
      refine Fxr.wp_region_typed (kindsMeetA [B, w.heap.size, w.heap.size+1] B w2.heap.size) (ReadsP [B, w.heap.size, w.heap.size+1] w4 B (q + 1) 1000 [w.heap.size, w.heap.size+1, w2.heap.size] (fun _ => True)) (KeptS [B, w.heap.size, w.heap.size+1]) (by kernel_rfl) (by kernel_rfl) (by kernel_rfl) rfl (kindsMeetA_keep _ _ _)
        ⟨⟨q + 1, by omega, hr5⟩, (KeptS.refl _ _).drewN 1, by have := hr5.1; have := hx.1.1; have := hz.1.1; simp at *; omega, (Pairs.cons hx (Pairs.cons hz (Pairs.cons hy (Pairs.none _ _)))).drewN 1, trivial, rfl⟩ ?_ ?_
      · have hB := hBS
        clear hK hx hy hz hr5 hBS
        refine ⟨?_, ?_, ?_, ?_, ?_, ?_, ?_, ?_, ?_, ?_, ?_, ?_, ?_, ?_, ?_, ?_, ?_, trivial⟩
        · intro a wr k hk hl hR hd hold
          have d5 : a.tmps.getD 5 undef = .pointer (some ⟨w2.heap.size, 0, none⟩) := hl.rest 5 (not_dst rfl)
          refine wpOp_at _ rfl rfl ?_
          have f5 := getD_form d5
          obtain ⟨x0, y0, ⟨t0, t1, -⟩, ⟨e0, e1⟩, f0, f1⟩ := hR.pairs w2.heap.size (by simp)
          clear hl hd hold hk
          go_simp
          exact ⟨_, rfl, ⟨_, _, rfl⟩, hR.next (by decide), KeptS.refl _ _⟩
        · intro a wr k hk hl hR hd hold
          have d5 : a.tmps.getD 5 undef = .pointer (some ⟨w2.heap.size, 0, none⟩) := hl.rest 5 (not_dst rfl)
          refine wpOp_at _ rfl rfl ?_
          have f5 := getD_form d5
          clear hl hd hold hk
          go_simp
          exact ⟨_, rfl, rfl, hR.next (by decide), KeptS.refl _ _⟩
        · intro a wr k hk hl hR hd hold
          have d18 : a.tmps.getD 18 undef = .pointer (some ⟨w2.heap.size, 0, none⟩) := hd ⟨1, .data⟩ (by simp) rfl
          refine wpOp_at _ rfl rfl ?_
          have f18 := getD_form d18
          obtain ⟨x0, y0, ⟨t0, t1, -⟩, ⟨e0, e1⟩, f0, f1⟩ := hR.pairs w2.heap.size (by simp)
          clear hl hd hold hk
          go_simp
          exact ⟨_, rfl, ⟨_, rfl⟩, hR.next (by decide), KeptS.refl _ _⟩
        · intro a wr k hk hl hR hd hold
          have d4 : a.tmps.getD 4 undef = .pointer (some ⟨_, 0, none⟩) := hl.rest 4 (not_dst rfl)
          refine wpOp_at _ rfl rfl ?_
          have f4 := getD_form d4
          clear hl hd hold hk
          go_simp
          exact ⟨_, rfl, rfl, hR.next (by decide), KeptS.refl _ _⟩
        · intro a wr k hk hl hR hd hold
          have d20 : a.tmps.getD 20 undef = .pointer (some ⟨_, 0, none⟩) := hd ⟨3, .data⟩ (by simp) rfl
          refine wpOp_at _ rfl rfl ?_
          have f20 := getD_form d20
          obtain ⟨q0, hq0, hr0⟩ := hR.reader
          have hk0 : k < 17 := hk
          clear hl hd hold hk
          go_simp
          refine (pick_any _ _ _ _ hr0 (by omega)).mono ?_
          rintro e w1 ⟨x, rfl, hx, hr1, hk1⟩
          have hx1 := hx (by omega)
          exact ⟨_, rfl, ⟨x, rfl, hx1.1, by omega⟩, hR.gone hY hB (by omega) hr1 hk1, hk1.toS hB⟩
        · intro a wr k hk hl hR hd hold
          obtain ⟨x19, d19⟩ : IsNum (a.tmps.getD 19 undef) := hd ⟨2, .data⟩ (by simp) rfl
          obtain ⟨x21, d21, l21, u21⟩ : NumIn 0 8 (a.tmps.getD 21 undef) := hd ⟨4, .data⟩ (by simp) rfl
          refine wpOp_at _ rfl rfl ?_
          have f19 := getD_form d19
          have f21 := getD_form d21
          clear hl hd hold hk
          go_simp
          exact ⟨_, rfl, ⟨_, rfl⟩, hR.next (by decide), KeptS.refl _ _⟩
        · intro a wr k hk hl hR hd hold
          obtain ⟨x22, d22⟩ : IsNum (a.tmps.getD 22 undef) := hd ⟨5, .data⟩ (by simp) rfl
          refine wpOp_at _ rfl rfl ?_
          have f22 := getD_form d22
          clear hl hd hold hk
          go_simp
          split <;> exact ⟨_, rfl, ⟨_, rfl⟩, hR.next (by decide), KeptS.refl _ _⟩
        · intro a wr k hk hl hR hd hold
          have d5 : a.tmps.getD 5 undef = .pointer (some ⟨w2.heap.size, 0, none⟩) := hl.rest 5 (not_dst rfl)
          refine wpOp_at _ rfl rfl ?_
          have f5 := getD_form d5
          clear hl hd hold hk
          go_simp
          exact ⟨_, rfl, rfl, hR.next (by decide), KeptS.refl _ _⟩
        · intro a wr k hk hl hR hd hold
          have d24 : a.tmps.getD 24 undef = .pointer (some ⟨w2.heap.size, 0, none⟩) := hd ⟨7, .data⟩ (by simp) rfl
          refine wpOp_at _ rfl rfl ?_
          have f24 := getD_form d24
          obtain ⟨x0, y0, ⟨t0, t1, -⟩, ⟨e0, e1⟩, f0, f1⟩ := hR.pairs w2.heap.size (by simp)
          clear hl hd hold hk
          go_simp
          exact ⟨_, rfl, ⟨_, rfl⟩, hR.next (by decide), KeptS.refl _ _⟩
        · intro a wr k hk hl hR hd hold
          have d4 : a.tmps.getD 4 undef = .pointer (some ⟨_, 0, none⟩) := hl.rest 4 (not_dst rfl)
          refine wpOp_at _ rfl rfl ?_
          have f4 := getD_form d4
          clear hl hd hold hk
          go_simp
          exact ⟨_, rfl, rfl, hR.next (by decide), KeptS.refl _ _⟩
        · intro a wr k hk hl hR hd hold
          have d26 : a.tmps.getD 26 undef = .pointer (some ⟨_, 0, none⟩) := hd ⟨9, .data⟩ (by simp) rfl
          refine wpOp_at _ rfl rfl ?_
          have f26 := getD_form d26
          obtain ⟨q0, hq0, hr0⟩ := hR.reader
          have hk0 : k < 17 := hk
          clear hl hd hold hk
          go_simp
          refine (pick_any _ _ _ _ hr0 (by omega)).mono ?_
          rintro e w1 ⟨x, rfl, hx, hr1, hk1⟩
          have hx1 := hx (by omega)
          exact ⟨_, rfl, ⟨x, rfl, hx1.1, by omega⟩, hR.gone hY hB (by omega) hr1 hk1, hk1.toS hB⟩
        · intro a wr k hk hl hR hd hold
          obtain ⟨x25, d25⟩ : IsNum (a.tmps.getD 25 undef) := hd ⟨8, .data⟩ (by simp) rfl
          obtain ⟨x27, d27, l27, u27⟩ : NumIn 0 8 (a.tmps.getD 27 undef) := hd ⟨10, .data⟩ (by simp) rfl
          refine wpOp_at _ rfl rfl ?_
          have f25 := getD_form d25
          have f27 := getD_form d27
          clear hl hd hold hk
          go_simp
          exact ⟨_, rfl, ⟨_, rfl⟩, hR.next (by decide), KeptS.refl _ _⟩
        · intro a wr k hk hl hR hd hold
          obtain ⟨x28, d28⟩ : IsNum (a.tmps.getD 28 undef) := hd ⟨11, .data⟩ (by simp) rfl
          refine wpOp_at _ rfl rfl ?_
          have f28 := getD_form d28
          clear hl hd hold hk
          go_simp
          split <;> exact ⟨_, rfl, ⟨_, rfl⟩, hR.next (by decide), KeptS.refl _ _⟩
        · intro a wr k hk hl hR hd hold
          obtain ⟨x29, d29⟩ : IsNum (a.tmps.getD 29 undef) := hd ⟨12, .data⟩ (by simp) rfl
          refine wpOp_at _ rfl rfl ?_
          have f29 := getD_form d29
          clear hl hd hold hk
          go_simp
          split <;> exact ⟨_, rfl, ⟨_, rfl⟩, hR.next (by decide), KeptS.refl _ _⟩
        · intro a wr k hk hl hR hd hold
          obtain ⟨x23, d23⟩ : IsNum (a.tmps.getD 23 undef) := hd ⟨6, .data⟩ (by simp) rfl
          obtain ⟨x30, d30⟩ : IsNum (a.tmps.getD 30 undef) := hd ⟨13, .data⟩ (by simp) rfl
          refine wpOp_at _ rfl rfl ?_
          have f23 := getD_form d23
          have f30 := getD_form d30
          clear hl hd hold hk
          go_simp
          exact ⟨_, rfl, ⟨_, _, rfl⟩, hR.next (by decide), KeptS.refl _ _⟩
        · intro a wr k hk hl hR hd hold
          have d2 : a.tmps.getD 2 undef = .pointer (some ⟨w.heap.size, 0, none⟩) := hl.rest 2 (not_dst rfl)
          obtain ⟨x17, y17, d17⟩ : IsPair (a.tmps.getD 17 undef) := hd ⟨0, .data⟩ (by simp) rfl
          refine wpOp_at _ rfl rfl ?_
          have f2 := getD_form d2
          have f17 := getD_form d17
          obtain ⟨x0, y0, ⟨t0, t1, -⟩, ⟨e0, e1⟩, f0, f1⟩ := hR.pairs w.heap.size (by simp)
          clear hl hd hold hk
          go_simp
          exact ⟨⟨undef, trivial⟩, hR.put (by decide) hY (b := w.heap.size) (by simp) (by simp) x17 y17, keptS_put2 (b := w.heap.size) (by simp) _ _⟩
        · intro a wr k hk hl hR hd hold
          have d3 : a.tmps.getD 3 undef = .pointer (some ⟨(w.heap.size+1), 0, none⟩) := hl.rest 3 (not_dst rfl)
          obtain ⟨x31, y31, d31⟩ : IsPair (a.tmps.getD 31 undef) := hd ⟨14, .data⟩ (by simp) rfl
          refine wpOp_at _ rfl rfl ?_
          have f3 := getD_form d3
          have f31 := getD_form d31
          obtain ⟨x0, y0, ⟨t0, t1, -⟩, ⟨e0, e1⟩, f0, f1⟩ := hR.pairs (w.heap.size+1) (by simp)
          clear hl hd hold hk
          go_simp
          exact ⟨⟨undef, trivial⟩, hR.put (by decide) hY (b := (w.heap.size+1)) (by simp) (by simp) x31 y31, keptS_put2 (b := (w.heap.size+1)) (by simp) _ _⟩
      ·
        intro a wr k hk0 hl hR hT
        obtain ⟨x17, y17, d17⟩ : IsPair (a.tmps.getD 17 undef) := hT 0 (by decide)
        have d18 : a.tmps.getD 18 undef = .pointer (some ⟨w2.heap.size, 0, none⟩) := hT 1 (by decide)
        obtain ⟨x19, d19⟩ : IsNum (a.tmps.getD 19 undef) := hT 2 (by decide)
        have d20 : a.tmps.getD 20 undef = .pointer (some ⟨_, 0, none⟩) := hT 3 (by decide)
        obtain ⟨x21, d21, l21, u21⟩ : NumIn 0 8 (a.tmps.getD 21 undef) := hT 4 (by decide)
        obtain ⟨x22, d22⟩ : IsNum (a.tmps.getD 22 undef) := hT 5 (by decide)
        obtain ⟨x23, d23⟩ : IsNum (a.tmps.getD 23 undef) := hT 6 (by decide)
        have d24 : a.tmps.getD 24 undef = .pointer (some ⟨w2.heap.size, 0, none⟩) := hT 7 (by decide)
        obtain ⟨x25, d25⟩ : IsNum (a.tmps.getD 25 undef) := hT 8 (by decide)
        have d26 : a.tmps.getD 26 undef = .pointer (some ⟨_, 0, none⟩) := hT 9 (by decide)
        obtain ⟨x27, d27, l27, u27⟩ : NumIn 0 8 (a.tmps.getD 27 undef) := hT 10 (by decide)
        obtain ⟨x28, d28⟩ : IsNum (a.tmps.getD 28 undef) := hT 11 (by decide)
        obtain ⟨x29, d29⟩ : IsNum (a.tmps.getD 29 undef) := hT 12 (by decide)
        obtain ⟨x30, d30⟩ : IsNum (a.tmps.getD 30 undef) := hT 13 (by decide)
        obtain ⟨x31, y31, d31⟩ : IsPair (a.tmps.getD 31 undef) := hT 14 (by decide)
        have ea := Fxr.act_ext a [_, _, _, _, _, _, _, _, _, _, _, _, _, _, _, _, _, _, _, _, _, _, _, _, _, _, _, _, _, _, _, _, _, _, _] hl.defers (by exact hl.size) ⟨hl.rest 0 (not_dst rfl), hl.rest 1 (not_dst rfl), hl.rest 2 (not_dst rfl), hl.rest 3 (not_dst rfl), hl.rest 4 (not_dst rfl), hl.rest 5 (not_dst rfl), hl.rest 6 (not_dst rfl), hl.rest 7 (not_dst rfl), hl.rest 8 (not_dst rfl), hl.rest 9 (not_dst rfl), hl.rest 10 (not_dst rfl), hl.rest 11 (not_dst rfl), hl.rest 12 (not_dst rfl), hl.rest 13 (not_dst rfl), hl.rest 14 (not_dst rfl), hl.rest 15 (not_dst rfl), hl.rest 16 (not_dst rfl), d17, d18, d19, d20, d21, d22, d23, d24, d25, d26, d27, d28, d29, d30, d31, hl.rest 32 (not_dst rfl), hl.rest 33 (not_dst rfl), hl.rest 34 (not_dst rfl), trivial⟩
        clear hT hl
        subst ea
        have hK := hR.toKept hK (by simp)
        obtain ⟨xa, ya, -, ⟨e0, e1⟩, -⟩ := hR.pairs w.heap.size (by simp)
        obtain ⟨xb, yb, -, ⟨e2, e3'⟩, -⟩ := hR.pairs (w.heap.size+1) (by simp)
        clear hR hx hy hz hr5 hBS
        go_wp2
        (try simp only [Exit.inBlock, Exit.then])
        exact bodyPost_ret (v := .tuple #[.agg #[.int .i64 xa, .int .i64 ya], .agg #[.int .i64 xb, .int .i64 yb]]) (by simp [results, Try.results23, go_sem, e0, e1, e2, e3']) rfl ⟨_, _, _, _, rfl, hK.below hB (Nat.le_refl _)⟩
    · have V := Lib.hid hv
      clear hv
      go_wp2_with fail
      refine (s_spanValid_no _ _ _ V.out).mono ?_
      rintro e w4 ⟨rfl, hb4⟩
      have hx := hx.keep (kept_of_below hb4 B)
      have hy := hy.keep (kept_of_below hb4 B)
      have hz := hz.keep (kept_of_below hb4 B)
      have hK := hK.trans (kept_of_below hb4 B)
      have hr5 := Rd.keepB hr4 hb4
      clear hb4 hr4 t0 t1 d0 d1 k0 k1
      go_wp2_with fail
      have hY := staysS_true [B, w.heap.size, w.heap.size+1]
      have hBS : B ∈ [B, w.heap.size, w.heap.size+1] := by simp
      refine Fxr.wp_region_typed (kindsMeetB [B, w.heap.size, w.heap.size+1] B) (ReadsP [B, w.heap.size, w.heap.size+1] w4 B (q + 1) 1000 [w.heap.size, w.heap.size+1, w2.heap.size] (fun _ => True)) (KeptS [B, w.heap.size, w.heap.size+1]) (by kernel_rfl) (by kernel_rfl) (by kernel_rfl) rfl (kindsMeetB_keep _ _)
        ⟨⟨q + 1, by omega, hr5⟩, (KeptS.refl _ _).drewN 1, by have := hr5.1; have := hx.1.1; have := hz.1.1; simp at *; omega, (Pairs.cons hx (Pairs.cons hz (Pairs.cons hy (Pairs.none _ _)))).drewN 1, trivial, rfl⟩ ?_ ?_
      · have hB := hBS
        clear hK hx hy hz hr5 hBS
        refine ⟨?_, ?_, ?_, ?_, ?_, trivial⟩
        · intro a wr k hk hl hR hd hold
          have d5 : a.tmps.getD 5 undef = .pointer (some ⟨w2.heap.size, 0, none⟩) := hl.rest 5 (not_dst rfl)
          refine wpOp_at _ rfl rfl ?_
          have f5 := getD_form d5
          obtain ⟨x0, y0, ⟨t0, t1, -⟩, ⟨e0, e1⟩, f0, f1⟩ := hR.pairs w2.heap.size (by simp)
          clear hl hd hold hk
          go_simp
          exact ⟨_, rfl, ⟨_, _, rfl⟩, hR.next (by decide), KeptS.refl _ _⟩
        · intro a wr k hk hl hR hd hold
          have d4 : a.tmps.getD 4 undef = .pointer (some ⟨_, 0, none⟩) := hl.rest 4 (not_dst rfl)
          refine wpOp_at _ rfl rfl ?_
          have f4 := getD_form d4
          clear hl hd hold hk
          go_simp
          exact ⟨_, rfl, rfl, hR.next (by decide), KeptS.refl _ _⟩
        · intro a wr k hk hl hR hd hold
          have d33 : a.tmps.getD 33 undef = .pointer (some ⟨_, 0, none⟩) := hd ⟨1, .data⟩ (by simp) rfl
          refine wpOp_at _ rfl rfl ?_
          have f33 := getD_form d33
          obtain ⟨q0, hq0, hr0⟩ := hR.reader
          have hk0 : k < 5 := hk
          clear hl hd hold hk
          go_simp
          refine (l20Span_any _ _ _ _ hr0 (by omega) (by omega)).mono ?_
          rintro e w1 ⟨x, y, rfl, ⟨q1, hq1, hr1⟩, hk1⟩
          exact ⟨_, rfl, ⟨x, y, rfl⟩, hR.gone hY hB (by omega) hr1 hk1, hk1.toS hB⟩
        · intro a wr k hk hl hR hd hold
          have d2 : a.tmps.getD 2 undef = .pointer (some ⟨w.heap.size, 0, none⟩) := hl.rest 2 (not_dst rfl)
          obtain ⟨x32, y32, d32⟩ : IsPair (a.tmps.getD 32 undef) := hd ⟨0, .data⟩ (by simp) rfl
          refine wpOp_at _ rfl rfl ?_
          have f2 := getD_form d2
          have f32 := getD_form d32
          obtain ⟨x0, y0, ⟨t0, t1, -⟩, ⟨e0, e1⟩, f0, f1⟩ := hR.pairs w.heap.size (by simp)
          clear hl hd hold hk
          go_simp
          exact ⟨⟨undef, trivial⟩, hR.put (by decide) hY (b := w.heap.size) (by simp) (by simp) x32 y32, keptS_put2 (b := w.heap.size) (by simp) _ _⟩
        · intro a wr k hk hl hR hd hold
          have d3 : a.tmps.getD 3 undef = .pointer (some ⟨(w.heap.size+1), 0, none⟩) := hl.rest 3 (not_dst rfl)
          obtain ⟨x34, y34, d34⟩ : IsPair (a.tmps.getD 34 undef) := hd ⟨2, .data⟩ (by simp) rfl
          refine wpOp_at _ rfl rfl ?_
          have f3 := getD_form d3
          have f34 := getD_form d34
          obtain ⟨x0, y0, ⟨t0, t1, -⟩, ⟨e0, e1⟩, f0, f1⟩ := hR.pairs (w.heap.size+1) (by simp)
          clear hl hd hold hk
          go_simp
          exact ⟨⟨undef, trivial⟩, hR.put (by decide) hY (b := (w.heap.size+1)) (by simp) (by simp) x34 y34, keptS_put2 (b := (w.heap.size+1)) (by simp) _ _⟩
      ·
        intro a wr k hk0 hl hR hT
        obtain ⟨x32, y32, d32⟩ : IsPair (a.tmps.getD 32 undef) := hT 0 (by decide)
        have d33 : a.tmps.getD 33 undef = .pointer (some ⟨_, 0, none⟩) := hT 1 (by decide)
        obtain ⟨x34, y34, d34⟩ : IsPair (a.tmps.getD 34 undef) := hT 2 (by decide)
        have ea := Fxr.act_ext a [_, _, _, _, _, _, _, _, _, _, _, _, _, _, _, _, _, _, _, _, _, _, _, _, _, _, _, _, _, _, _, _, _, _, _] hl.defers (by exact hl.size) ⟨hl.rest 0 (not_dst rfl), hl.rest 1 (not_dst rfl), hl.rest 2 (not_dst rfl), hl.rest 3 (not_dst rfl), hl.rest 4 (not_dst rfl), hl.rest 5 (not_dst rfl), hl.rest 6 (not_dst rfl), hl.rest 7 (not_dst rfl), hl.rest 8 (not_dst rfl), hl.rest 9 (not_dst rfl), hl.rest 10 (not_dst rfl), hl.rest 11 (not_dst rfl), hl.rest 12 (not_dst rfl), hl.rest 13 (not_dst rfl), hl.rest 14 (not_dst rfl), hl.rest 15 (not_dst rfl), hl.rest 16 (not_dst rfl), hl.rest 17 (not_dst rfl), hl.rest 18 (not_dst rfl), hl.rest 19 (not_dst rfl), hl.rest 20 (not_dst rfl), hl.rest 21 (not_dst rfl), hl.rest 22 (not_dst rfl), hl.rest 23 (not_dst rfl), hl.rest 24 (not_dst rfl), hl.rest 25 (not_dst rfl), hl.rest 26 (not_dst rfl), hl.rest 27 (not_dst rfl), hl.rest 28 (not_dst rfl), hl.rest 29 (not_dst rfl), hl.rest 30 (not_dst rfl), hl.rest 31 (not_dst rfl), d32, d33, d34, trivial⟩
        clear hT hl
        subst ea
        have hK := hR.toKept hK (by simp)
        obtain ⟨xa, ya, -, ⟨e0, e1⟩, -⟩ := hR.pairs w.heap.size (by simp)
        obtain ⟨xb, yb, -, ⟨e2, e3'⟩, -⟩ := hR.pairs (w.heap.size+1) (by simp)
        clear hR hx hy hz hr5 hBS
        go_wp2
        (try simp only [Exit.inBlock, Exit.then])
        exact bodyPost_ret (v := .tuple #[.agg #[.int .i64 xa, .int .i64 ya], .agg #[.int .i64 xb, .int .i64 yb]]) (by simp [results, Try.results23, go_sem, e0, e1, e2, e3']) rfl ⟨_, _, _, _, rfl, hK.below hB (Nat.le_refl _)⟩
  · have e3 : (x3 == 0) = false := by simpa using h3
    go_wp2_with fail
    have hY := staysS_true [B, w.heap.size, w.heap.size+1]
    have hBS : B ∈ [B, w.heap.size, w.heap.size+1] := by simp
    refine Fxr.wp_region_typed (kindsMeetB [B, w.heap.size, w.heap.size+1] B) (ReadsP [B, w.heap.size, w.heap.size+1] w3 B (q + 1) 1000 [w.heap.size, w.heap.size+1, w2.heap.size] (fun _ => True)) (KeptS [B, w.heap.size, w.heap.size+1]) (by kernel_rfl) (by kernel_rfl) (by kernel_rfl) rfl (kindsMeetB_keep _ _)
      ⟨⟨q + 1, by omega, hr4⟩, (KeptS.refl _ _).drewN 1, by have := hr4.1; have := hx.1.1; have := hz.1.1; simp at *; omega, (Pairs.cons hx (Pairs.cons hz (Pairs.cons hy (Pairs.none _ _)))).drewN 1, trivial, rfl⟩ ?_ ?_
    · have hB := hBS
      clear hK hx hy hz hr4 hBS
      refine ⟨?_, ?_, ?_, ?_, ?_, trivial⟩
      · intro a wr k hk hl hR hd hold
        have d5 : a.tmps.getD 5 undef = .pointer (some ⟨w2.heap.size, 0, none⟩) := hl.rest 5 (not_dst rfl)
        refine wpOp_at _ rfl rfl ?_
        have f5 := getD_form d5
        obtain ⟨x0, y0, ⟨t0, t1, -⟩, ⟨e0, e1⟩, f0, f1⟩ := hR.pairs w2.heap.size (by simp)
        clear hl hd hold hk
        go_simp
        exact ⟨_, rfl, ⟨_, _, rfl⟩, hR.next (by decide), KeptS.refl _ _⟩
      · intro a wr k hk hl hR hd hold
        have d4 : a.tmps.getD 4 undef = .pointer (some ⟨_, 0, none⟩) := hl.rest 4 (not_dst rfl)
        refine wpOp_at _ rfl rfl ?_
        have f4 := getD_form d4
        clear hl hd hold hk
        go_simp
        exact ⟨_, rfl, rfl, hR.next (by decide), KeptS.refl _ _⟩
      · intro a wr k hk hl hR hd hold
        have d33 : a.tmps.getD 33 undef = .pointer (some ⟨_, 0, none⟩) := hd ⟨1, .data⟩ (by simp) rfl
        refine wpOp_at _ rfl rfl ?_
        have f33 := getD_form d33
        obtain ⟨q0, hq0, hr0⟩ := hR.reader
        have hk0 : k < 5 := hk
        clear hl hd hold hk
        go_simp
        refine (l20Span_any _ _ _ _ hr0 (by omega) (by omega)).mono ?_
        rintro e w1 ⟨x, y, rfl, ⟨q1, hq1, hr1⟩, hk1⟩
        exact ⟨_, rfl, ⟨x, y, rfl⟩, hR.gone hY hB (by omega) hr1 hk1, hk1.toS hB⟩
      · intro a wr k hk hl hR hd hold
        have d2 : a.tmps.getD 2 undef = .pointer (some ⟨w.heap.size, 0, none⟩) := hl.rest 2 (not_dst rfl)
        obtain ⟨x32, y32, d32⟩ : IsPair (a.tmps.getD 32 undef) := hd ⟨0, .data⟩ (by simp) rfl
        refine wpOp_at _ rfl rfl ?_
        have f2 := getD_form d2
        have f32 := getD_form d32
        obtain ⟨x0, y0, ⟨t0, t1, -⟩, ⟨e0, e1⟩, f0, f1⟩ := hR.pairs w.heap.size (by simp)
        clear hl hd hold hk
        go_simp
        exact ⟨⟨undef, trivial⟩, hR.put (by decide) hY (b := w.heap.size) (by simp) (by simp) x32 y32, keptS_put2 (b := w.heap.size) (by simp) _ _⟩
      · intro a wr k hk hl hR hd hold
        have d3 : a.tmps.getD 3 undef = .pointer (some ⟨(w.heap.size+1), 0, none⟩) := hl.rest 3 (not_dst rfl)
        obtain ⟨x34, y34, d34⟩ : IsPair (a.tmps.getD 34 undef) := hd ⟨2, .data⟩ (by simp) rfl
        refine wpOp_at _ rfl rfl ?_
        have f3 := getD_form d3
        have f34 := getD_form d34
        obtain ⟨x0, y0, ⟨t0, t1, -⟩, ⟨e0, e1⟩, f0, f1⟩ := hR.pairs (w.heap.size+1) (by simp)
        clear hl hd hold hk
        go_simp
        exact ⟨⟨undef, trivial⟩, hR.put (by decide) hY (b := (w.heap.size+1)) (by simp) (by simp) x34 y34, keptS_put2 (b := (w.heap.size+1)) (by simp) _ _⟩
    ·
      intro a wr k hk0 hl hR hT
      obtain ⟨x32, y32, d32⟩ : IsPair (a.tmps.getD 32 undef) := hT 0 (by decide)
      have d33 : a.tmps.getD 33 undef = .pointer (some ⟨_, 0, none⟩) := hT 1 (by decide)
      obtain ⟨x34, y34, d34⟩ : IsPair (a.tmps.getD 34 undef) := hT 2 (by decide)
      have ea := Fxr.act_ext a [_, _, _, _, _, _, _, _, _, _, _, _, _, _, _, _, _, _, _, _, _, _, _, _, _, _, _, _, _, _, _, _, _, _, _] hl.defers (by exact hl.size) ⟨hl.rest 0 (not_dst rfl), hl.rest 1 (not_dst rfl), hl.rest 2 (not_dst rfl), hl.rest 3 (not_dst rfl), hl.rest 4 (not_dst rfl), hl.rest 5 (not_dst rfl), hl.rest 6 (not_dst rfl), hl.rest 7 (not_dst rfl), hl.rest 8 (not_dst rfl), hl.rest 9 (not_dst rfl), hl.rest 10 (not_dst rfl), hl.rest 11 (not_dst rfl), hl.rest 12 (not_dst rfl), hl.rest 13 (not_dst rfl), hl.rest 14 (not_dst rfl), hl.rest 15 (not_dst rfl), hl.rest 16 (not_dst rfl), hl.rest 17 (not_dst rfl), hl.rest 18 (not_dst rfl), hl.rest 19 (not_dst rfl), hl.rest 20 (not_dst rfl), hl.rest 21 (not_dst rfl), hl.rest 22 (not_dst rfl), hl.rest 23 (not_dst rfl), hl.rest 24 (not_dst rfl), hl.rest 25 (not_dst rfl), hl.rest 26 (not_dst rfl), hl.rest 27 (not_dst rfl), hl.rest 28 (not_dst rfl), hl.rest 29 (not_dst rfl), hl.rest 30 (not_dst rfl), hl.rest 31 (not_dst rfl), d32, d33, d34, trivial⟩
      clear hT hl
      subst ea
      have hK := hR.toKept hK (by simp)
      obtain ⟨xa, ya, -, ⟨e0, e1⟩, -⟩ := hR.pairs w.heap.size (by simp)
      obtain ⟨xb, yb, -, ⟨e2, e3'⟩, -⟩ := hR.pairs (w.heap.size+1) (by simp)
      clear hR hx hy hz hr4 hBS
      go_wp2
      (try simp only [Exit.inBlock, Exit.then])
      exact bodyPost_ret (v := .tuple #[.agg #[.int .i64 xa, .int .i64 ya], .agg #[.int .i64 xb, .int .i64 yb]]) (by simp [results, Try.results23, go_sem, e0, e1, e2, e3']) rfl ⟨_, _, _, _, rfl, hK.below hB (Nat.le_refl _)⟩

end Go.Proofs.Ytfllhncilfkamaa
