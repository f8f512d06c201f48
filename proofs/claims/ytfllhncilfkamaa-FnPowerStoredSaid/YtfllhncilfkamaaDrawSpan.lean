/-
  The draw of a span.
-/
import Derived.Test.YtfllhncilfkamaaBox
namespace Go.Proofs.Ytfllhncilfkamaa
open Go.RowKit

set_option maxHeartbeats 4000000 in
theorem l20Span_any (B : Nat) (p n : Int) (w : World) (h : Rd w B p) (hp : p ≤ 500000) (hn : 1 ≤ n ∧ n ≤ 1000) :
    Calls Try.prog 58 #[.pointer (some ⟨B, 0, none⟩), .int .i64 n] w (DrewPair w B p 10) := by
  have hB := h.1
  have hx := Box.made (.int .i64 0) (.int .i64 0) 24 h
  go_enter Try.func58, Try.ntmps58
  go_wp2_with fail
  refine (pick_any _ _ _ _ (h.alloc _) (by omega)).mono ?_
  rintro e w1 ⟨x1, rfl, hx1, hr1, hk1⟩
  have g1 := hx1 (by omega)
  have hx := hx.keep hk1
  have hK := ((Kept.refl B w).alloc _).trans hk1
  clear hx1 hk1 h
  go_wp2_with fail
  refine (pick_any _ _ _ _ hr1 (by omega)).mono ?_
  rintro e w2 ⟨x2, rfl, hx2, hr2, hk2⟩
  have g2 := hx2 (by omega)
  have hx := hx.keep hk2
  have hK := hK.trans hk2
  clear hx2 hk2 hr1
  go_wp2_with fail
  refine (pick_any _ _ _ _ hr2 (by omega)).mono ?_
  rintro e w3 ⟨x3, rfl, hx3, hr3, hk3⟩
  have g3 := hx3 (by omega)
  have hx := hx.keep hk3
  have hK := hK.trans hk3
  clear hx3 hk3 hr2
  go_wp2_with fail
  refine (pick_any _ _ _ _ ((hr3.alloc _).alloc _) (by omega)).mono ?_
  rintro e w4 ⟨x4, rfl, hx4, hr4, hk4⟩
  have g4 := hx4 (by omega)
  obtain ⟨v, hv, c1⟩ := hk4.tab2 hr3.1 0 5 rfl x4.toNat (by simp; omega)
  obtain ⟨a, c2⟩ := hk4.row2 hr3.1 rfl v.toNat (by simp; omega)
  have hx := ((hx.alloc _).alloc _).keep hk4
  have hK := ((hK.alloc _).alloc _).trans hk4
  clear hx4 hk4 hr3
  go_wp2_with fail
  clear c1 c2
  refine (pick_any _ _ _ _ hr4 (by omega)).mono ?_
  rintro e w5 ⟨x5, rfl, hx5, hr5, hk5⟩
  have g5 := hx5 (by omega)
  have hx := hx.keep hk5
  have hK := hK.trans hk5
  clear hx5 hk5 hr4
  go_wp2_with fail
  refine (pick_any _ _ _ _ hr5 (by omega)).mono ?_
  rintro e w6 ⟨x6, rfl, hx6, hr6, hk6⟩
  have g6 := hx6 (by omega)
  have hx := hx.keep hk6
  have hK := hK.trans hk6
  clear hx6 hk6 hr5
  go_wp2_with fail
  refine (pick_any _ _ _ _ (hr6.alloc _) (by omega)).mono ?_
  rintro e w7 ⟨x7, rfl, hx7, hr7, hk7⟩
  have g7 := hx7 (by omega)
  obtain ⟨b, c3⟩ := hk7.row hr6.1 rfl x7.toNat (by simp; omega)
  have hx := (hx.alloc _).keep hk7
  have hK := (hK.alloc _).trans hk7
  have hs : w.heap.size < w7.heap.size := hx.1.1
  clear hx7 hk7 hr6
  go_wp2_with fail
  ·
    have hy := Box.made (.int .i64 a) (.int .i64 (wrap64<|a+b)) 24 hr7
    have hx := hx.alloc (.cells #[.int .i64 a, .int .i64 (wrap64<|a+b)] 24)
    have hf7 : w.heap.size ≤ w7.heap.size := by omega
    have hne : w.heap.size ≠ w7.heap.size := by omega
    have hK := hK.alloc (.cells #[.int .i64 a, .int .i64 (wrap64<|a+b)] 24)
    refine (odd_any _ _ _ _ (hr7.alloc _) (by omega) (by omega)).mono ?_
    rintro e w8 ⟨x8, rfl, ⟨q8, hq8, hr8⟩, hk8⟩
    have hx := hx.keep hk8
    have hy := hy.keep hk8
    have hK := hK.trans hk8
    clear hk8 hr7 c3
    cases x8
    · obtain ⟨⟨t0, t1, -⟩, ⟨d0, d1⟩, k0, k1⟩ := hy
      obtain ⟨⟨s0, s1, -⟩, ⟨z0, z1⟩, f0, f1⟩ := id hx
      obtain ⟨-, ⟨e0, e1⟩, -⟩ := hx.put (.int .i64 a) (.int .i64 (wrap64<|a+b))
      unfold put2 at e0 e1
      go_wp2
      (try simp only [Exit.inBlock, Exit.then])
      exact bodyPost_ret (v := .agg #[.int .i64 a, .int .i64 (wrap64<|a+b)]) (by simp [results, Try.results58, go_sem, e0, e1]) rfl ⟨_, _, rfl, ⟨_, by omega, hr8.put2 hx (.int .i64 a) (.int .i64 (wrap64<|a+b))⟩, hK.put2 (Nat.le_refl _) (.int .i64 a) (.int .i64 (wrap64<|a+b))⟩
    · go_wp2_with fail
      refine (pick_any _ _ _ _ (hr8.alloc _) (by omega)).mono ?_
      rintro e w9 ⟨x9, rfl, hx9, hr9, hk9⟩
      have g9 := hx9 (by omega)
      have hx := (hx.alloc _).keep hk9
      have hy := (hy.alloc _).keep hk9
      have hK := (hK.alloc _).trans hk9
      obtain ⟨xa, ya, r0, r1⟩ := hk9.pairs hr8.1 rfl x9.toNat (by simp; omega)
      clear hx9 hk9
      obtain ⟨⟨t0, t1, -⟩, ⟨d0, d1⟩, k0, k1⟩ := id hy
      obtain ⟨⟨s0, s1, -⟩, ⟨z0, z1⟩, f0, f1⟩ := id hx
      have hX := hx.other hne hy.1.2.1 (.int .i64 xa) (.int .i64 ya)
      obtain ⟨-, ⟨d2, d3⟩, -⟩ := hy.put (.int .i64 xa) (.int .i64 ya)
      obtain ⟨-, ⟨e0, e1⟩, -⟩ := hX.put (.int .i64 xa) (.int .i64 ya)
      unfold put2 at e0 e1 d2 d3
      have hr9 := (hr9.put2 hy (.int .i64 xa) (.int .i64 ya)).put2 hX (.int .i64 xa) (.int .i64 ya)
      have hK := (hK.put2 (b := w7.heap.size) hf7 (.int .i64 xa) (.int .i64 ya)).put2 (Nat.le_refl _) (.int .i64 xa) (.int .i64 ya)
      clear hX hx hy
      go_wp2
      (try simp only [Exit.inBlock, Exit.then])
      exact bodyPost_ret (v := .agg #[.int .i64 xa, .int .i64 ya]) (by simp [results, Try.results58, go_sem, e0, e1]) rfl ⟨_, _, rfl, ⟨_, by omega, hr9⟩, hK⟩
  ·
    have hy := Box.made (.int .i64 a) (.int .i64 1073741824) 24 hr7
    have hx := hx.alloc (.cells #[.int .i64 a, .int .i64 1073741824] 24)
    have hf7 : w.heap.size ≤ w7.heap.size := by omega
    have hne : w.heap.size ≠ w7.heap.size := by omega
    have hK := hK.alloc (.cells #[.int .i64 a, .int .i64 1073741824] 24)
    refine (odd_any _ _ _ _ (hr7.alloc _) (by omega) (by omega)).mono ?_
    rintro e w8 ⟨x8, rfl, ⟨q8, hq8, hr8⟩, hk8⟩
    have hx := hx.keep hk8
    have hy := hy.keep hk8
    have hK := hK.trans hk8
    clear hk8 hr7 c3
    cases x8
    · obtain ⟨⟨t0, t1, -⟩, ⟨d0, d1⟩, k0, k1⟩ := hy
      obtain ⟨⟨s0, s1, -⟩, ⟨z0, z1⟩, f0, f1⟩ := id hx
      obtain ⟨-, ⟨e0, e1⟩, -⟩ := hx.put (.int .i64 a) (.int .i64 1073741824)
      unfold put2 at e0 e1
      go_wp2
      (try simp only [Exit.inBlock, Exit.then])
      exact bodyPost_ret (v := .agg #[.int .i64 a, .int .i64 1073741824]) (by simp [results, Try.results58, go_sem, e0, e1]) rfl ⟨_, _, rfl, ⟨_, by omega, hr8.put2 hx (.int .i64 a) (.int .i64 1073741824)⟩, hK.put2 (Nat.le_refl _) (.int .i64 a) (.int .i64 1073741824)⟩
    · go_wp2_with fail
      refine (pick_any _ _ _ _ (hr8.alloc _) (by omega)).mono ?_
      rintro e w9 ⟨x9, rfl, hx9, hr9, hk9⟩
      have g9 := hx9 (by omega)
      have hx := (hx.alloc _).keep hk9
      have hy := (hy.alloc _).keep hk9
      have hK := (hK.alloc _).trans hk9
      obtain ⟨xa, ya, r0, r1⟩ := hk9.pairs hr8.1 rfl x9.toNat (by simp; omega)
      clear hx9 hk9
      obtain ⟨⟨t0, t1, -⟩, ⟨d0, d1⟩, k0, k1⟩ := id hy
      obtain ⟨⟨s0, s1, -⟩, ⟨z0, z1⟩, f0, f1⟩ := id hx
      have hX := hx.other hne hy.1.2.1 (.int .i64 xa) (.int .i64 ya)
      obtain ⟨-, ⟨d2, d3⟩, -⟩ := hy.put (.int .i64 xa) (.int .i64 ya)
      obtain ⟨-, ⟨e0, e1⟩, -⟩ := hX.put (.int .i64 xa) (.int .i64 ya)
      unfold put2 at e0 e1 d2 d3
      have hr9 := (hr9.put2 hy (.int .i64 xa) (.int .i64 ya)).put2 hX (.int .i64 xa) (.int .i64 ya)
      have hK := (hK.put2 (b := w7.heap.size) hf7 (.int .i64 xa) (.int .i64 ya)).put2 (Nat.le_refl _) (.int .i64 xa) (.int .i64 ya)
      clear hX hx hy
      go_wp2
      (try simp only [Exit.inBlock, Exit.then])
      exact bodyPost_ret (v := .agg #[.int .i64 xa, .int .i64 ya]) (by simp [results, Try.results58, go_sem, e0, e1]) rfl ⟨_, _, rfl, ⟨_, by omega, hr9⟩, hK⟩
end Go.Proofs.Ytfllhncilfkamaa
