/-
  The draws of spans.
-/
import Derived.Test.YtkogpcabemklhaaDrawSpan
namespace Go.Proofs.Ytkogpcabemklhaa
open Go.RowKit

def DrewS (w : World) (e : Ending) (w' : World) : Prop := ∃ a b : Int, e = .returned (.agg #[.int .i64 a, .int .i64 b]) ∧ Below w.heap.size w w'
def DrewSI (w : World) (e : Ending) (w' : World) : Prop := ∃ a b n : Int, e = .returned (.tuple #[.agg #[.int .i64 a, .int .i64 b], .int .i64 n]) ∧ Below w.heap.size w w'
def DrewSS (w : World) (e : Ending) (w' : World) : Prop := ∃ a b c d : Int, e = .returned (.tuple #[.agg #[.int .i64 a, .int .i64 b], .agg #[.int .i64 c, .int .i64 d]]) ∧ Below w.heap.size w w'
theorem Box.opened2 {w w' : World} {b B : Nat} {v u : Value} {T : TypeId} {o : Obj} (hB : w.heap.size + 1 + 1 ≤ B) (hr : Rd w' B 0) (hk : Kept B ((w.alloc (.cells #[v, u] T)).alloc o) w') (ha : Apart w.heap.size B w') (hb : b = w.heap.size) : Box b B v u w' := by
  subst hb
  have hs : w.heap.size < (w.alloc (.cells #[v, u] T)).heap.size := by simp
  have hn : w.heap.size ≠ B := by omega
  have hk := ((Kept.refl B (w.alloc (.cells #[v, u] T))).alloc o).trans hk
  refine ⟨⟨Nat.lt_of_lt_of_le hs hk.size, hn, hr.1, ha⟩, ⟨?_, ?_⟩, ?_, ?_⟩
  · rw [hk.cell hs hn, World.cell?_alloc_at (w := w) _ T _ _ rfl]; rfl
  · rw [hk.cell hs hn, World.cell?_alloc_at (w := w) _ T _ _ rfl]; rfl
  · rw [hk.frozen hs hn]; simp [go_sem]
  · rw [hk.frozen hs hn]; simp [go_sem]

set_option maxHeartbeats 2000000 in
theorem drawSpanNeg_any (a : Option Addr) (len cap : Nat) (zs : Nat → Int) (w : World) (h : Row8 w w.heap.size a len cap zs) :
    Calls Try.prog 13 #[.slice a len cap] w (DrewS w) := by
  have H := Lib.hid h
  clear h
  go_enter Try.func13, Try.ntmps13
  go_wp2_with fail
  refine (l20Open_at _ _ _ _ w.heap.size _ (H.out.through ((Below.refl _ _).alloc (Nat.le_refl _) _)) (by simp)).mono ?_
  rintro e w1 ⟨B, hB, rfl, hr, hk, ha⟩
  have hx := Box.opened hB hr hk (ha _ (Nat.le_refl _)) rfl
  have hK := ((Kept.refl B w).alloc _).trans hk
  have hB : w.heap.size ≤ B := by simp at hB; omega
  clear hk ha H
  go_wp2_with fail
  refine (l20Span_any _ _ _ _ hr (by omega) (by omega)).mono ?_
  rintro e w2 ⟨f1, f2, rfl, ⟨q, hq, hr2⟩, hk2⟩
  have hx := hx.keep hk2
  have hK := hK.trans hk2
  obtain ⟨⟨s0, s1, -⟩, ⟨c0, c1⟩, z0, z1⟩ := id hx
  obtain ⟨-, ⟨e0, e1⟩, -⟩ := hx.put (.int .i64 f1) (.int .i64 f2)
  unfold put2 at e0 e1
  have hb := (hK.put2 (Nat.le_refl _) (.int .i64 f1) (.int .i64 f2)).below hB (Nat.le_refl _)
  go_wp2
  (try simp only [Exit.inBlock, Exit.then])
  exact bodyPost_ret (v := .agg #[.int .i64 f1, .int .i64 f2]) (by simp [results, Try.results13, go_sem, e0, e1]) rfl ⟨_, _, rfl, hb⟩

set_option maxHeartbeats 2000000 in
theorem drawSpanAdd_any (a : Option Addr) (len cap : Nat) (zs : Nat → Int) (w : World) (h : Row8 w w.heap.size a len cap zs) :
    Calls Try.prog 23 #[.slice a len cap] w (DrewSS w) := by
  have H := Lib.hid h
  clear h
  go_enter Try.func23, Try.ntmps23
  go_wp2_with fail
  refine (l20Open_at _ _ _ _ w.heap.size _ (H.out.through (((Below.refl _ _).alloc (Nat.le_refl _) _).alloc (by simp) _)) (by simp; omega)).mono ?_
  rintro e w1 ⟨B, hB, rfl, hr, hk, ha⟩
  have hx := Box.opened2 (by simpa using hB) hr hk (ha _ (Nat.le_refl _)) rfl
  have hz := Box.opened hB hr hk (b := w.heap.size + 1) (ha _ (by simp)) (by simp)
  have hK := (((Kept.refl B w).alloc _).alloc _).trans hk
  have hB : w.heap.size ≤ B := by simp at hB; omega
  clear hk ha H
  go_wp2_with fail
  refine (l20Span_any _ _ _ _ hr (by omega) (by omega)).mono ?_
  rintro e w2 ⟨f1, f2, rfl, ⟨q, hq, hr2⟩, hk2⟩
  have hx := hx.keep hk2
  have hz := hz.keep hk2
  have hK := hK.trans hk2
  clear hk2 hr
  go_wp2_with fail
  refine (l20Span_any _ _ _ _ hr2 (by omega) (by omega)).mono ?_
  rintro e w3 ⟨g1, g2, rfl, ⟨q3, hq3, hr3⟩, hk3⟩
  have hx := hx.keep hk3
  have hz := hz.keep hk3
  have hK := hK.trans hk3
  obtain ⟨⟨s0, s1, -⟩, ⟨c0, c1⟩, z0, z1⟩ := id hx
  obtain ⟨⟨t0, t1, -⟩, ⟨d0, d1⟩, y0, y1⟩ := id hz
  have hne : w.heap.size + 1 ≠ w.heap.size := by omega
  have hZ := hz.other hne hx.1.2.1 (.int .i64 f1) (.int .i64 f2)
  have hX2 := (hx.put (.int .i64 f1) (.int .i64 f2)).other (Ne.symm hne) hz.1.2.1 (.int .i64 g1) (.int .i64 g2)
  obtain ⟨-, ⟨e0, e1⟩, -⟩ := hX2
  obtain ⟨-, ⟨e2, e3⟩, -⟩ := hZ.put (.int .i64 g1) (.int .i64 g2)
  obtain ⟨-, ⟨i0, i1⟩, i2, i3⟩ := hZ
  unfold put2 at e0 e1 e2 e3 i0 i1 i2 i3
  have hb := ((hK.put2 (Nat.le_refl _) (.int .i64 f1) (.int .i64 f2)).put2 (b := w.heap.size + 1) (by omega) (.int .i64 g1) (.int .i64 g2)).below hB (Nat.le_refl _)
  go_wp2
  (try simp only [Exit.inBlock, Exit.then])
  exact bodyPost_ret (v := .tuple #[.agg #[.int .i64 f1, .int .i64 f2], .agg #[.int .i64 g1, .int .i64 g2]]) (by simp [results, Try.results23, go_sem, e0, e1, e2, e3]) rfl ⟨_, _, _, _, rfl, hb⟩

end Go.Proofs.Ytkogpcabemklhaa
