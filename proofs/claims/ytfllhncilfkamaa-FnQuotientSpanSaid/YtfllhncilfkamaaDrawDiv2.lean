/-
  The draw of two spans for quotients.
-/
import Derived.Test.YtfllhncilfkamaaDrawSpans
import Derived.Test.YtfllhncilfkamaaSpan
import Derived.RegionTactic
namespace Go.Proofs.Ytfllhncilfkamaa
open Go.RowKit

/-- What is carried of the four boxes, the reader and what was there. -/
structure Four (w W : World) (B c d : Nat) (q : Int) (a0 a1 b0 b1 : Int) : Prop where
  r0 : Box w.heap.size B (.int .i64 0) (.int .i64 0) W
  r1 : Box (w.heap.size + 1) B (.int .i64 0) (.int .i64 0) W
  a : Box c B (.int .i64 a0) (.int .i64 a1) W
  b : Box d B (.int .i64 b0) (.int .i64 b1) W
  rd : Rd W B q
  kept : Kept B w W
  apart : w.heap.size + 1 < c ∧ c < d
  low : w.heap.size ≤ B
theorem Four.keep {w W w1 : World} {B c d : Nat} {q q' a0 a1 b0 b1 : Int} (h : Four w W B c d q a0 a1 b0 b1) (hk : Kept B W w1) (hr : Rd w1 B q') : Four w w1 B c d q' a0 a1 b0 b1 :=
  ⟨h.r0.keep hk, h.r1.keep hk, h.a.keep hk, h.b.keep hk, hr, h.kept.trans hk, h.apart, h.low⟩
theorem Four.below {w W w1 : World} {B c d : Nat} {q a0 a1 b0 b1 : Int} (h : Four w W B c d q a0 a1 b0 b1) (hb : Below W.heap.size W w1) : Four w w1 B c d q a0 a1 b0 b1 :=
  h.keep (kept_of_below hb B) (Rd.keepB h.rd hb)
theorem Four.putA {w W : World} {B c d : Nat} {q a0 a1 b0 b1 : Int} (h : Four w W B c d q a0 a1 b0 b1) (x y : Int) : Four w ((W.setCell ⟨c, 0, none⟩ (.int .i64 x)).setCell ⟨c, 1, none⟩ (.int .i64 y)) B c d q x y b0 b1 := by
  have hl := h.apart
  exact ⟨h.r0.other (by omega) h.a.1.2.1 _ _, h.r1.other (by omega) h.a.1.2.1 _ _, h.a.put _ _, h.b.other (by omega) h.a.1.2.1 _ _, h.rd.put2 h.a _ _, h.kept.put2 (by omega) _ _, h.apart, h.low⟩
theorem Four.putB {w W : World} {B c d : Nat} {q a0 a1 b0 b1 : Int} (h : Four w W B c d q a0 a1 b0 b1) (x y : Int) : Four w ((W.setCell ⟨d, 0, none⟩ (.int .i64 x)).setCell ⟨d, 1, none⟩ (.int .i64 y)) B c d q a0 a1 x y := by
  have hl := h.apart
  exact ⟨h.r0.other (by omega) h.b.1.2.1 _ _, h.r1.other (by omega) h.b.1.2.1 _ _, h.a.other (by omega) h.b.1.2.1 _ _, h.b.put _ _, h.rd.put2 h.b _ _, h.kept.put2 (by omega) _ _, h.apart, h.low⟩
theorem Four.drew {w W : World} {B c d : Nat} {q a0 a1 b0 b1 : Int} (h : Four w W B c d q a0 a1 b0 b1) : Four w W.drew B c d q a0 a1 b0 b1 :=
  h.keep (q' := q) ((Kept.refl B W).drewN 1) (by obtain ⟨hB, hp, hf, hc, x⟩ := h.rd; exact ⟨hB, hp, hf, hc, x⟩)
/-- The end: both results copied. -/
theorem Four.done {w W : World} {B c d : Nat} {q a0 a1 b0 b1 : Int} (h : Four w W B c d q a0 a1 b0 b1) (x y z t : Int) :
    ((((W.setCell ⟨w.heap.size, 0, none⟩ (.int .i64 x)).setCell ⟨w.heap.size, 1, none⟩ (.int .i64 y)).setCell ⟨w.heap.size + 1, 0, none⟩ (.int .i64 z)).setCell ⟨w.heap.size + 1, 1, none⟩ (.int .i64 t)).cell? ⟨w.heap.size, 0, none⟩ = some (.int .i64 x) ∧
    ((((W.setCell ⟨w.heap.size, 0, none⟩ (.int .i64 x)).setCell ⟨w.heap.size, 1, none⟩ (.int .i64 y)).setCell ⟨w.heap.size + 1, 0, none⟩ (.int .i64 z)).setCell ⟨w.heap.size + 1, 1, none⟩ (.int .i64 t)).cell? ⟨w.heap.size, 1, none⟩ = some (.int .i64 y) ∧
    ((((W.setCell ⟨w.heap.size, 0, none⟩ (.int .i64 x)).setCell ⟨w.heap.size, 1, none⟩ (.int .i64 y)).setCell ⟨w.heap.size + 1, 0, none⟩ (.int .i64 z)).setCell ⟨w.heap.size + 1, 1, none⟩ (.int .i64 t)).cell? ⟨w.heap.size + 1, 0, none⟩ = some (.int .i64 z) ∧
    ((((W.setCell ⟨w.heap.size, 0, none⟩ (.int .i64 x)).setCell ⟨w.heap.size, 1, none⟩ (.int .i64 y)).setCell ⟨w.heap.size + 1, 0, none⟩ (.int .i64 z)).setCell ⟨w.heap.size + 1, 1, none⟩ (.int .i64 t)).cell? ⟨w.heap.size + 1, 1, none⟩ = some (.int .i64 t) ∧
    (W.setCell ⟨w.heap.size, 0, none⟩ (.int .i64 x)).cell? ⟨w.heap.size, 0, none⟩ = some (.int .i64 x) ∧
    ((W.setCell ⟨w.heap.size, 0, none⟩ (.int .i64 x)).setCell ⟨w.heap.size, 1, none⟩ (.int .i64 y)).cell? ⟨w.heap.size, 1, none⟩ = some (.int .i64 y) ∧
    (((W.setCell ⟨w.heap.size, 0, none⟩ (.int .i64 x)).setCell ⟨w.heap.size, 1, none⟩ (.int .i64 y)).setCell ⟨w.heap.size + 1, 0, none⟩ (.int .i64 z)).cell? ⟨w.heap.size + 1, 0, none⟩ = some (.int .i64 z) ∧
    Below w.heap.size w ((((W.setCell ⟨w.heap.size, 0, none⟩ (.int .i64 x)).setCell ⟨w.heap.size, 1, none⟩ (.int .i64 y)).setCell ⟨w.heap.size + 1, 0, none⟩ (.int .i64 z)).setCell ⟨w.heap.size + 1, 1, none⟩ (.int .i64 t)) := by
  have p1 := h.r0.put (.int .i64 x) (.int .i64 y)
  have p2 := h.r1.other (show w.heap.size + 1 ≠ w.heap.size by omega) h.r0.1.2.1 (.int .i64 x) (.int .i64 y)
  have p3 := p1.other (show w.heap.size ≠ w.heap.size + 1 by omega) h.r1.1.2.1 (.int .i64 z) (.int .i64 t)
  have p4 := p2.put (.int .i64 z) (.int .i64 t)
  exact ⟨p3.2.1.1, p3.2.1.2, p4.2.1.1, p4.2.1.2, World.cell?_setCell_same _ _ _ h.r0.2.1.1, p1.2.1.2, World.cell?_setCell_same _ _ _ p2.2.1.1, ((h.kept.put2 (Nat.le_refl _) _ _).put2 (by omega) _ _).below h.low (Nat.le_refl _)⟩

set_option maxHeartbeats 8000000 in
theorem drawSpanDiv_any (a : Option Addr) (len cap : Nat) (zs : Nat → Int) (w : World) (h : Row8 w w.heap.size a len cap zs) :
    Calls Try.prog 29 #[.slice a len cap] w (DrewSS w) := by
  have H := Lib.hid h
  clear h
  go_enter Try.func29, Try.ntmps29
  go_wp2_with fail
  refine (l20Open_at _ _ _ _ w.heap.size _ (H.out.through (((Below.refl _ _).alloc (Nat.le_refl _) _).alloc (by simp) _)) (by simp; omega)).mono ?_
  rintro e w1 ⟨B, hB, rfl, hr, hk, ha⟩
  have hx := Box.opened2 (by simpa using hB) hr hk (ha _ (Nat.le_refl _)) rfl
  have hz := Box.opened hB hr hk (b := w.heap.size + 1) (ha _ (by simp)) (by simp)
  have hK := (((Kept.refl B w).alloc _).alloc _).trans hk
  have hB : w.heap.size ≤ B := by simp at hB; omega
  clear hk ha H
  go_wp2_with fail
  refine (l20Span_any _ _ _ _ hr (by omega) (by omega)).mono ?_
  rintro e w2 ⟨f1, f2, rfl, ⟨q, hq, hr2⟩, hk2⟩
  have l1 : w.heap.size + 1 < w2.heap.size := (hz.keep hk2).1.1
  have hx := (hx.keep hk2).alloc (.cells #[.int .i64 f1, .int .i64 f2] 24)
  have hz := (hz.keep hk2).alloc (.cells #[.int .i64 f1, .int .i64 f2] 24)
  have hy := Box.made (.int .i64 f1) (.int .i64 f2) 24 hr2
  have hK := (hK.trans hk2).alloc (.cells #[.int .i64 f1, .int .i64 f2] 24)
  have hr3 := hr2.alloc (.cells #[.int .i64 f1, .int .i64 f2] 24)
  clear hk2 hr2 hr
  go_wp2_with fail
  refine (l20Span_any _ _ _ _ hr3 (by omega) (by omega)).mono ?_
  rintro e w3 ⟨g1, g2, rfl, ⟨q3, hq3, hr4⟩, hk3⟩
  have l2 : w2.heap.size < w3.heap.size := (hy.keep hk3).1.1
  have hF : Four w (w3.alloc (.cells #[.int .i64 g1, .int .i64 g2] 24)) B w2.heap.size w3.heap.size q3 f1 f2 g1 g2 :=
    ⟨(hx.keep hk3).alloc _, (hz.keep hk3).alloc _, (hy.keep hk3).alloc _, Box.made _ _ _ hr4, hr4.alloc _, (hK.trans hk3).alloc _, ⟨l1, l2⟩, hB⟩
  clear hk3 hr3 hr4 hx hz hy hK
  go_wp2_with fail
  refine (pick_any _ _ _ _ hF.rd (by omega)).mono ?_
  rintro e w4 ⟨x3, rfl, hx3, hr5, hk4⟩
  replace hF := hF.keep hk4 hr5
  clear hx3 hr5 hk4
  rcases (show (0 < x3 ∧ f1 < 0) ∨ (0 < x3 ∧ 0 ≤ f1) ∨ x3 ≤ 0 by omega) with ⟨h3, h4⟩ | ⟨h3, h4⟩ | h3
  ·
    obtain ⟨⟨s0, s1, -⟩, ⟨c0, c1⟩, z0, z1⟩ := hF.r0
    obtain ⟨⟨s2, s3, -⟩, ⟨c2, c3⟩, z2, z3⟩ := hF.r1
    obtain ⟨⟨s4, s5, -⟩, ⟨c4, c5⟩, z4, z5⟩ := hF.a
    obtain ⟨⟨s6, s7, -⟩, ⟨c6, c7⟩, z6, z7⟩ := hF.b
    have hap := hF.apart
    have n1 : w.heap.size ≠ w.heap.size + 1 := by omega
    go_wp2_with fail
    refine (s_spanNeg_any _ _ _).mono ?_
    rintro e w5 ⟨rfl, hb5⟩
    replace hF := hF.below hb5
    generalize (Fx.spanNeg f1 f2).1 = k1 at *
    generalize (Fx.spanNeg f1 f2).2 = k2 at *
    clear hb5
    clear s0 s1 c0 c1 z0 z1 s2 s3 c2 c3 z2 z3 s4 s5 c4 c5 z4 z5 s6 s7 c6 c7 z6 z7 hap n1
    obtain ⟨⟨s0, s1, -⟩, ⟨c0, c1⟩, z0, z1⟩ := hF.r0
    obtain ⟨⟨s2, s3, -⟩, ⟨c2, c3⟩, z2, z3⟩ := hF.r1
    obtain ⟨⟨s4, s5, -⟩, ⟨c4, c5⟩, z4, z5⟩ := hF.a
    obtain ⟨⟨s6, s7, -⟩, ⟨c6, c7⟩, z6, z7⟩ := hF.b
    have hap := hF.apart
    have n1 : w.heap.size ≠ w.heap.size + 1 := by omega
    go_wp2_with fail
    replace hF := hF.putA k1 k2
    clear s0 s1 c0 c1 z0 z1 s2 s3 c2 c3 z2 z3 s4 s5 c4 c5 z4 z5 s6 s7 c6 c7 z6 z7 hap n1
    generalize ((w5.setCell ⟨w2.heap.size, 0, none⟩ (.int .i64 k1)).setCell ⟨w2.heap.size, 1, none⟩ (.int .i64 k2)) = W5 at *
    refine (pick_any _ _ _ _ hF.rd (by omega)).mono ?_
    rintro e w6 ⟨x4, rfl, hx4, hr6, hk6⟩
    replace hF := hF.keep hk6 hr6
    clear hx4 hr6 hk6
    rcases (show (0 < x4 ∧ g1 < 0) ∨ (0 < x4 ∧ 0 ≤ g1) ∨ x4 ≤ 0 by omega) with ⟨h5, h6⟩ | ⟨h5, h6⟩ | h5
    ·
      obtain ⟨⟨s0, s1, -⟩, ⟨c0, c1⟩, z0, z1⟩ := hF.r0
      obtain ⟨⟨s2, s3, -⟩, ⟨c2, c3⟩, z2, z3⟩ := hF.r1
      obtain ⟨⟨s4, s5, -⟩, ⟨c4, c5⟩, z4, z5⟩ := hF.a
      obtain ⟨⟨s6, s7, -⟩, ⟨c6, c7⟩, z6, z7⟩ := hF.b
      have hap := hF.apart
      have n1 : w.heap.size ≠ w.heap.size + 1 := by omega
      go_wp2_with fail
      refine (s_spanNeg_any _ _ _).mono ?_
      rintro e w7 ⟨rfl, hb7⟩
      replace hF := hF.below hb7
      generalize (Fx.spanNeg g1 g2).1 = m1 at *
      generalize (Fx.spanNeg g1 g2).2 = m2 at *
      clear hb7
      clear s0 s1 c0 c1 z0 z1 s2 s3 c2 c3 z2 z3 s4 s5 c4 c5 z4 z5 s6 s7 c6 c7 z6 z7 hap n1
      obtain ⟨⟨s0, s1, -⟩, ⟨c0, c1⟩, z0, z1⟩ := hF.r0
      obtain ⟨⟨s2, s3, -⟩, ⟨c2, c3⟩, z2, z3⟩ := hF.r1
      obtain ⟨⟨s4, s5, -⟩, ⟨c4, c5⟩, z4, z5⟩ := hF.a
      obtain ⟨⟨s6, s7, -⟩, ⟨c6, c7⟩, z6, z7⟩ := hF.b
      have hap := hF.apart
      have n1 : w.heap.size ≠ w.heap.size + 1 := by omega
      go_wp2_with fail
      replace hF := hF.putB m1 m2
      clear s0 s1 c0 c1 z0 z1 s2 s3 c2 c3 z2 z3 s4 s5 c4 c5 z4 z5 s6 s7 c6 c7 z6 z7 hap n1
      generalize ((w7.setCell ⟨w3.heap.size, 0, none⟩ (.int .i64 m1)).setCell ⟨w3.heap.size, 1, none⟩ (.int .i64 m2)) = W8 at *
      obtain ⟨⟨s0, s1, -⟩, ⟨c0, c1⟩, z0, z1⟩ := hF.r0
      obtain ⟨⟨s2, s3, -⟩, ⟨c2, c3⟩, z2, z3⟩ := hF.r1
      obtain ⟨⟨s4, s5, -⟩, ⟨c4, c5⟩, z4, z5⟩ := hF.a
      obtain ⟨⟨s6, s7, -⟩, ⟨c6, c7⟩, z6, z7⟩ := hF.b
      have hap := hF.apart
      have n1 : w.heap.size ≠ w.heap.size + 1 := by omega
      go_wp2_with fail
      go_region
      all_goals
        go_wp2
        obtain ⟨-, -, -, e3, e0, e1, e2, hb⟩ := hF.done k1 k2 m1 m2
        (try simp only [Exit.inBlock, Exit.then])
        exact bodyPost_ret (v := .tuple #[.agg #[.int .i64 k1, .int .i64 k2], .agg #[.int .i64 m1, .int .i64 m2]]) (by simp [results, Try.results29, go_sem, e0, e1, e2, e3]) rfl ⟨_, _, _, _, rfl, hb.drew⟩
    ·
      obtain ⟨⟨s0, s1, -⟩, ⟨c0, c1⟩, z0, z1⟩ := hF.r0
      obtain ⟨⟨s2, s3, -⟩, ⟨c2, c3⟩, z2, z3⟩ := hF.r1
      obtain ⟨⟨s4, s5, -⟩, ⟨c4, c5⟩, z4, z5⟩ := hF.a
      obtain ⟨⟨s6, s7, -⟩, ⟨c6, c7⟩, z6, z7⟩ := hF.b
      have hap := hF.apart
      have n1 : w.heap.size ≠ w.heap.size + 1 := by omega
      go_wp2_with fail
      go_region
      all_goals
        go_wp2
        obtain ⟨-, -, -, e3, e0, e1, e2, hb⟩ := hF.done k1 k2 g1 g2
        (try simp only [Exit.inBlock, Exit.then])
        exact bodyPost_ret (v := .tuple #[.agg #[.int .i64 k1, .int .i64 k2], .agg #[.int .i64 g1, .int .i64 g2]]) (by simp [results, Try.results29, go_sem, e0, e1, e2, e3]) rfl ⟨_, _, _, _, rfl, hb.drew⟩
    ·
      obtain ⟨⟨s0, s1, -⟩, ⟨c0, c1⟩, z0, z1⟩ := hF.r0
      obtain ⟨⟨s2, s3, -⟩, ⟨c2, c3⟩, z2, z3⟩ := hF.r1
      obtain ⟨⟨s4, s5, -⟩, ⟨c4, c5⟩, z4, z5⟩ := hF.a
      obtain ⟨⟨s6, s7, -⟩, ⟨c6, c7⟩, z6, z7⟩ := hF.b
      have hap := hF.apart
      have n1 : w.heap.size ≠ w.heap.size + 1 := by omega
      go_wp2_with fail
      go_region
      all_goals
        go_wp2
        obtain ⟨-, -, -, e3, e0, e1, e2, hb⟩ := hF.done k1 k2 g1 g2
        (try simp only [Exit.inBlock, Exit.then])
        exact bodyPost_ret (v := .tuple #[.agg #[.int .i64 k1, .int .i64 k2], .agg #[.int .i64 g1, .int .i64 g2]]) (by simp [results, Try.results29, go_sem, e0, e1, e2, e3]) rfl ⟨_, _, _, _, rfl, hb.drew⟩
  ·
    obtain ⟨⟨s0, s1, -⟩, ⟨c0, c1⟩, z0, z1⟩ := hF.r0
    obtain ⟨⟨s2, s3, -⟩, ⟨c2, c3⟩, z2, z3⟩ := hF.r1
    obtain ⟨⟨s4, s5, -⟩, ⟨c4, c5⟩, z4, z5⟩ := hF.a
    obtain ⟨⟨s6, s7, -⟩, ⟨c6, c7⟩, z6, z7⟩ := hF.b
    have hap := hF.apart
    have n1 : w.heap.size ≠ w.heap.size + 1 := by omega
    go_wp2_with fail
    clear s0 s1 c0 c1 z0 z1 s2 s3 c2 c3 z2 z3 s4 s5 c4 c5 z4 z5 s6 s7 c6 c7 z6 z7 hap n1
    refine (pick_any _ _ _ _ hF.rd (by omega)).mono ?_
    rintro e w6 ⟨x4, rfl, hx4, hr6, hk6⟩
    replace hF := hF.keep hk6 hr6
    clear hx4 hr6 hk6
    rcases (show (0 < x4 ∧ g1 < 0) ∨ (0 < x4 ∧ 0 ≤ g1) ∨ x4 ≤ 0 by omega) with ⟨h5, h6⟩ | ⟨h5, h6⟩ | h5
    ·
      obtain ⟨⟨s0, s1, -⟩, ⟨c0, c1⟩, z0, z1⟩ := hF.r0
      obtain ⟨⟨s2, s3, -⟩, ⟨c2, c3⟩, z2, z3⟩ := hF.r1
      obtain ⟨⟨s4, s5, -⟩, ⟨c4, c5⟩, z4, z5⟩ := hF.a
      obtain ⟨⟨s6, s7, -⟩, ⟨c6, c7⟩, z6, z7⟩ := hF.b
      have hap := hF.apart
      have n1 : w.heap.size ≠ w.heap.size + 1 := by omega
      go_wp2_with fail
      refine (s_spanNeg_any _ _ _).mono ?_
      rintro e w7 ⟨rfl, hb7⟩
      replace hF := hF.below hb7
      generalize (Fx.spanNeg g1 g2).1 = m1 at *
      generalize (Fx.spanNeg g1 g2).2 = m2 at *
      clear hb7
      clear s0 s1 c0 c1 z0 z1 s2 s3 c2 c3 z2 z3 s4 s5 c4 c5 z4 z5 s6 s7 c6 c7 z6 z7 hap n1
      obtain ⟨⟨s0, s1, -⟩, ⟨c0, c1⟩, z0, z1⟩ := hF.r0
      obtain ⟨⟨s2, s3, -⟩, ⟨c2, c3⟩, z2, z3⟩ := hF.r1
      obtain ⟨⟨s4, s5, -⟩, ⟨c4, c5⟩, z4, z5⟩ := hF.a
      obtain ⟨⟨s6, s7, -⟩, ⟨c6, c7⟩, z6, z7⟩ := hF.b
      have hap := hF.apart
      have n1 : w.heap.size ≠ w.heap.size + 1 := by omega
      go_wp2_with fail
      replace hF := hF.putB m1 m2
      clear s0 s1 c0 c1 z0 z1 s2 s3 c2 c3 z2 z3 s4 s5 c4 c5 z4 z5 s6 s7 c6 c7 z6 z7 hap n1
      generalize ((w7.setCell ⟨w3.heap.size, 0, none⟩ (.int .i64 m1)).setCell ⟨w3.heap.size, 1, none⟩ (.int .i64 m2)) = W8 at *
      obtain ⟨⟨s0, s1, -⟩, ⟨c0, c1⟩, z0, z1⟩ := hF.r0
      obtain ⟨⟨s2, s3, -⟩, ⟨c2, c3⟩, z2, z3⟩ := hF.r1
      obtain ⟨⟨s4, s5, -⟩, ⟨c4, c5⟩, z4, z5⟩ := hF.a
      obtain ⟨⟨s6, s7, -⟩, ⟨c6, c7⟩, z6, z7⟩ := hF.b
      have hap := hF.apart
      have n1 : w.heap.size ≠ w.heap.size + 1 := by omega
      go_wp2_with fail
      go_region
      all_goals
        go_wp2
        obtain ⟨-, -, -, e3, e0, e1, e2, hb⟩ := hF.done f1 f2 m1 m2
        (try simp only [Exit.inBlock, Exit.then])
        exact bodyPost_ret (v := .tuple #[.agg #[.int .i64 f1, .int .i64 f2], .agg #[.int .i64 m1, .int .i64 m2]]) (by simp [results, Try.results29, go_sem, e0, e1, e2, e3]) rfl ⟨_, _, _, _, rfl, hb.drew⟩
    ·
      obtain ⟨⟨s0, s1, -⟩, ⟨c0, c1⟩, z0, z1⟩ := hF.r0
      obtain ⟨⟨s2, s3, -⟩, ⟨c2, c3⟩, z2, z3⟩ := hF.r1
      obtain ⟨⟨s4, s5, -⟩, ⟨c4, c5⟩, z4, z5⟩ := hF.a
      obtain ⟨⟨s6, s7, -⟩, ⟨c6, c7⟩, z6, z7⟩ := hF.b
      have hap := hF.apart
      have n1 : w.heap.size ≠ w.heap.size + 1 := by omega
      go_wp2_with fail
      go_region
      all_goals
        go_wp2
        obtain ⟨-, -, -, e3, e0, e1, e2, hb⟩ := hF.done f1 f2 g1 g2
        (try simp only [Exit.inBlock, Exit.then])
        exact bodyPost_ret (v := .tuple #[.agg #[.int .i64 f1, .int .i64 f2], .agg #[.int .i64 g1, .int .i64 g2]]) (by simp [results, Try.results29, go_sem, e0, e1, e2, e3]) rfl ⟨_, _, _, _, rfl, hb.drew⟩
    ·
      obtain ⟨⟨s0, s1, -⟩, ⟨c0, c1⟩, z0, z1⟩ := hF.r0
      obtain ⟨⟨s2, s3, -⟩, ⟨c2, c3⟩, z2, z3⟩ := hF.r1
      obtain ⟨⟨s4, s5, -⟩, ⟨c4, c5⟩, z4, z5⟩ := hF.a
      obtain ⟨⟨s6, s7, -⟩, ⟨c6, c7⟩, z6, z7⟩ := hF.b
      have hap := hF.apart
      have n1 : w.heap.size ≠ w.heap.size + 1 := by omega
      go_wp2_with fail
      go_region
      all_goals
        go_wp2
        obtain ⟨-, -, -, e3, e0, e1, e2, hb⟩ := hF.done f1 f2 g1 g2
        (try simp only [Exit.inBlock, Exit.then])
        exact bodyPost_ret (v := .tuple #[.agg #[.int .i64 f1, .int .i64 f2], .agg #[.int .i64 g1, .int .i64 g2]]) (by simp [results, Try.results29, go_sem, e0, e1, e2, e3]) rfl ⟨_, _, _, _, rfl, hb.drew⟩
  ·
    obtain ⟨⟨s0, s1, -⟩, ⟨c0, c1⟩, z0, z1⟩ := hF.r0
    obtain ⟨⟨s2, s3, -⟩, ⟨c2, c3⟩, z2, z3⟩ := hF.r1
    obtain ⟨⟨s4, s5, -⟩, ⟨c4, c5⟩, z4, z5⟩ := hF.a
    obtain ⟨⟨s6, s7, -⟩, ⟨c6, c7⟩, z6, z7⟩ := hF.b
    have hap := hF.apart
    have n1 : w.heap.size ≠ w.heap.size + 1 := by omega
    go_wp2_with fail
    clear s0 s1 c0 c1 z0 z1 s2 s3 c2 c3 z2 z3 s4 s5 c4 c5 z4 z5 s6 s7 c6 c7 z6 z7 hap n1
    refine (pick_any _ _ _ _ hF.rd (by omega)).mono ?_
    rintro e w6 ⟨x4, rfl, hx4, hr6, hk6⟩
    replace hF := hF.keep hk6 hr6
    clear hx4 hr6 hk6
    rcases (show (0 < x4 ∧ g1 < 0) ∨ (0 < x4 ∧ 0 ≤ g1) ∨ x4 ≤ 0 by omega) with ⟨h5, h6⟩ | ⟨h5, h6⟩ | h5
    ·
      obtain ⟨⟨s0, s1, -⟩, ⟨c0, c1⟩, z0, z1⟩ := hF.r0
      obtain ⟨⟨s2, s3, -⟩, ⟨c2, c3⟩, z2, z3⟩ := hF.r1
      obtain ⟨⟨s4, s5, -⟩, ⟨c4, c5⟩, z4, z5⟩ := hF.a
      obtain ⟨⟨s6, s7, -⟩, ⟨c6, c7⟩, z6, z7⟩ := hF.b
      have hap := hF.apart
      have n1 : w.heap.size ≠ w.heap.size + 1 := by omega
      go_wp2_with fail
      refine (s_spanNeg_any _ _ _).mono ?_
      rintro e w7 ⟨rfl, hb7⟩
      replace hF := hF.below hb7
      generalize (Fx.spanNeg g1 g2).1 = m1 at *
      generalize (Fx.spanNeg g1 g2).2 = m2 at *
      clear hb7
      clear s0 s1 c0 c1 z0 z1 s2 s3 c2 c3 z2 z3 s4 s5 c4 c5 z4 z5 s6 s7 c6 c7 z6 z7 hap n1
      obtain ⟨⟨s0, s1, -⟩, ⟨c0, c1⟩, z0, z1⟩ := hF.r0
      obtain ⟨⟨s2, s3, -⟩, ⟨c2, c3⟩, z2, z3⟩ := hF.r1
      obtain ⟨⟨s4, s5, -⟩, ⟨c4, c5⟩, z4, z5⟩ := hF.a
      obtain ⟨⟨s6, s7, -⟩, ⟨c6, c7⟩, z6, z7⟩ := hF.b
      have hap := hF.apart
      have n1 : w.heap.size ≠ w.heap.size + 1 := by omega
      go_wp2_with fail
      replace hF := hF.putB m1 m2
      clear s0 s1 c0 c1 z0 z1 s2 s3 c2 c3 z2 z3 s4 s5 c4 c5 z4 z5 s6 s7 c6 c7 z6 z7 hap n1
      generalize ((w7.setCell ⟨w3.heap.size, 0, none⟩ (.int .i64 m1)).setCell ⟨w3.heap.size, 1, none⟩ (.int .i64 m2)) = W8 at *
      obtain ⟨⟨s0, s1, -⟩, ⟨c0, c1⟩, z0, z1⟩ := hF.r0
      obtain ⟨⟨s2, s3, -⟩, ⟨c2, c3⟩, z2, z3⟩ := hF.r1
      obtain ⟨⟨s4, s5, -⟩, ⟨c4, c5⟩, z4, z5⟩ := hF.a
      obtain ⟨⟨s6, s7, -⟩, ⟨c6, c7⟩, z6, z7⟩ := hF.b
      have hap := hF.apart
      have n1 : w.heap.size ≠ w.heap.size + 1 := by omega
      go_wp2_with fail
      go_region
      all_goals
        go_wp2
        obtain ⟨-, -, -, e3, e0, e1, e2, hb⟩ := hF.done f1 f2 m1 m2
        (try simp only [Exit.inBlock, Exit.then])
        exact bodyPost_ret (v := .tuple #[.agg #[.int .i64 f1, .int .i64 f2], .agg #[.int .i64 m1, .int .i64 m2]]) (by simp [results, Try.results29, go_sem, e0, e1, e2, e3]) rfl ⟨_, _, _, _, rfl, hb.drew⟩
    ·
      obtain ⟨⟨s0, s1, -⟩, ⟨c0, c1⟩, z0, z1⟩ := hF.r0
      obtain ⟨⟨s2, s3, -⟩, ⟨c2, c3⟩, z2, z3⟩ := hF.r1
      obtain ⟨⟨s4, s5, -⟩, ⟨c4, c5⟩, z4, z5⟩ := hF.a
      obtain ⟨⟨s6, s7, -⟩, ⟨c6, c7⟩, z6, z7⟩ := hF.b
      have hap := hF.apart
      have n1 : w.heap.size ≠ w.heap.size + 1 := by omega
      go_wp2_with fail
      go_region
      all_goals
        go_wp2
        obtain ⟨-, -, -, e3, e0, e1, e2, hb⟩ := hF.done f1 f2 g1 g2
        (try simp only [Exit.inBlock, Exit.then])
        exact bodyPost_ret (v := .tuple #[.agg #[.int .i64 f1, .int .i64 f2], .agg #[.int .i64 g1, .int .i64 g2]]) (by simp [results, Try.results29, go_sem, e0, e1, e2, e3]) rfl ⟨_, _, _, _, rfl, hb.drew⟩
    ·
      obtain ⟨⟨s0, s1, -⟩, ⟨c0, c1⟩, z0, z1⟩ := hF.r0
      obtain ⟨⟨s2, s3, -⟩, ⟨c2, c3⟩, z2, z3⟩ := hF.r1
      obtain ⟨⟨s4, s5, -⟩, ⟨c4, c5⟩, z4, z5⟩ := hF.a
      obtain ⟨⟨s6, s7, -⟩, ⟨c6, c7⟩, z6, z7⟩ := hF.b
      have hap := hF.apart
      have n1 : w.heap.size ≠ w.heap.size + 1 := by omega
      go_wp2_with fail
      go_region
      all_goals
        go_wp2
        obtain ⟨-, -, -, e3, e0, e1, e2, hb⟩ := hF.done f1 f2 g1 g2
        (try simp only [Exit.inBlock, Exit.then])
        exact bodyPost_ret (v := .tuple #[.agg #[.int .i64 f1, .int .i64 f2], .agg #[.int .i64 g1, .int .i64 g2]]) (by simp [results, Try.results29, go_sem, e0, e1, e2, e3]) rfl ⟨_, _, _, _, rfl, hb.drew⟩

end Go.Proofs.Ytfllhncilfkamaa
