/-
  The draw of a format.
-/
import Derived.Test.YtfllhncilfkamaaBox
namespace Go.Proofs.Ytfllhncilfkamaa
open Go.RowKit
set_option maxHeartbeats 2000000 in
theorem l20Format_any (B : Nat) (p n : Int) (w : World) (h : Rd w B p) (hp : p ≤ 500000) (hn : 1 ≤ n ∧ n ≤ 1000) :
    Calls Try.prog 74 #[.pointer (some ⟨B, 0, none⟩), .int .i64 n] w (DrewPair w B p 8) := by
  have hB := h.1
  go_enter Try.func74, Try.ntmps74
  go_wp2_with fail
  have hx := Box.made (.int .i64 0) (.int .i64 0) 52 h
  refine (pick_any _ _ _ _ (h.alloc _) (by omega)).mono ?_
  rintro e w1 ⟨x1, rfl, hx1, hr1, hk1⟩
  have g1 := hx1 (by omega)
  have hx := hx.keep hk1
  have hK := ((Kept.refl B w).alloc _).trans hk1
  clear hx1 hk1 h
  go_wp2_with fail
  refine (pick_any _ _ _ _ hr1 (by omega)).mono ?_
  rintro e w2 ⟨x2, rfl, hx2, hr2, hk2⟩
  have g2 := hx2 (by omega)
  have hx := hx.keep hk2
  have hK := hK.trans hk2
  clear hx2 hk2 hr1
  have hs := hx.1.1
  go_wp2_with fail
  have hy := Box.made (.int .i64 (1 + x1)) (.int .i64 x2) 52 hr2
  have hx := hx.alloc (.cells #[.int .i64 (1 + x1), .int .i64 x2] 52)
  refine (pick_any _ _ _ _ (hr2.alloc _) (by omega)).mono ?_
  rintro e w3 ⟨x3, rfl, hx3, hr3, hk3⟩
  have g3 := hx3 (by omega)
  have hx := hx.keep hk3
  have hy := hy.keep hk3
  have hf2 : w.heap.size ≤ w2.heap.size := hK.size
  have hne : w.heap.size ≠ w2.heap.size := by omega
  have hK := (hK.alloc _).trans hk3
  clear hx3 hk3
  by_cases h3 : x3 = 0
  · have e3 : (x3 == 0) = true := by simpa using h3
    go_wp2_with fail
    refine (pick_any _ _ _ _ hr3 (by omega)).mono ?_
    rintro e w4 ⟨x4, rfl, hx4, hr4, hk4⟩
    have g4 := hx4 (by omega)
    go_wp2_with fail
    refine (pick_any _ _ _ _ hr4 (by omega)).mono ?_
    rintro e w5 ⟨x5, rfl, hx5, hr5, hk5⟩
    have g5 := hx5 (by omega)
    have hx := ((hx.keep hk4).keep hk5).other hne (hy.keep hk4).1.2.1 (.int .i64 (1 + x4)) (.int .i64 x5)
    have hy := (hy.keep hk4).keep hk5
    have hK := ((hK.trans hk4).trans hk5).put2 (b := w2.heap.size) hf2 (.int .i64 (1 + x4)) (.int .i64 x5)
    have hr5 := hr5.put2 hy (.int .i64 (1 + x4)) (.int .i64 x5)
    clear hx4 hk4 hr4 hx5 hk5 hr3
    obtain ⟨⟨t0, t1, -⟩, ⟨d0, d1⟩, k0, k1⟩ := id hy
    have hy := hy.put (.int .i64 (1 + x4)) (.int .i64 x5)
    go_wp2_with fail
    clear t0 t1 d0 d1 k0 k1
    refine (odd_any _ _ _ _ hr5 (by omega) (by omega)).mono ?_
    rintro e w6 ⟨x6, rfl, ⟨q6, hq6, hr6⟩, hk6⟩
    have hx := hx.keep hk6
    have hy := hy.keep hk6
    have hK := hK.trans hk6
    clear hk6 hr5
    cases x6
    · obtain ⟨⟨t0, t1, -⟩, ⟨d0, d1⟩, k0, k1⟩ := hy
      obtain ⟨⟨s0, s1, -⟩, ⟨c0, c1⟩, f0, f1⟩ := id hx
      obtain ⟨-, ⟨e0, e1⟩, -⟩ := hx.put (.int .i64 (1+x4)) (.int .i64 x5)
      unfold put2 at e0 e1
      go_wp2
      (try simp only [Exit.inBlock, Exit.then])
      exact bodyPost_ret (v := .agg #[.int .i64 (1+x4), .int .i64 x5]) (by simp [results, Try.results74, go_sem, e0, e1]) rfl ⟨_, _, rfl, ⟨_, by omega, hr6.put2 hx (.int .i64 (1+x4)) (.int .i64 x5)⟩, hK.put2 (Nat.le_refl _) (.int .i64 (1+x4)) (.int .i64 x5)⟩
    · go_wp2_with fail
      refine (pick_any _ _ _ _ (hr6.alloc _) (by omega)).mono ?_
      rintro e w7 ⟨x7, rfl, hx7, hr7, hk7⟩
      have g7 := hx7 (by omega)
      have hx := (hx.alloc _).keep hk7
      have hy := (hy.alloc _).keep hk7
      have hK := (hK.alloc _).trans hk7
      obtain ⟨xa, ya, r0, r1⟩ := hk7.pairs hr6.1 rfl x7.toNat (by simp; omega)
      clear hx7 hk7
      obtain ⟨⟨t0, t1, -⟩, ⟨d0, d1⟩, k0, k1⟩ := id hy
      obtain ⟨⟨s0, s1, -⟩, ⟨c0, c1⟩, f0, f1⟩ := id hx
      have hX := hx.other hne hy.1.2.1 (.int .i64 xa) (.int .i64 ya)
      obtain ⟨-, ⟨d2, d3⟩, -⟩ := hy.put (.int .i64 xa) (.int .i64 ya)
      obtain ⟨-, ⟨e0, e1⟩, -⟩ := hX.put (.int .i64 xa) (.int .i64 ya)
      unfold put2 at e0 e1 d2 d3
      have hr7 := (hr7.put2 hy (.int .i64 xa) (.int .i64 ya)).put2 hX (.int .i64 xa) (.int .i64 ya)
      have hK := (hK.put2 (b := w2.heap.size) hf2 (.int .i64 xa) (.int .i64 ya)).put2 (Nat.le_refl _) (.int .i64 xa) (.int .i64 ya)
      clear hX hx hy
      go_wp2
      (try simp only [Exit.inBlock, Exit.then])
      exact bodyPost_ret (v := .agg #[.int .i64 xa, .int .i64 ya]) (by simp [results, Try.results74, go_sem, e0, e1]) rfl ⟨_, _, rfl, ⟨_, by omega, hr7⟩, hK⟩
  · have e3 : (x3 == 0) = false := by simpa using h3
    go_wp2_with fail
    refine (odd_any _ _ _ _ hr3 (by omega) (by omega)).mono ?_
    rintro e w6 ⟨x6, rfl, ⟨q6, hq6, hr6⟩, hk6⟩
    have hx := hx.keep hk6
    have hy := hy.keep hk6
    have hK := hK.trans hk6
    clear hk6 hr3
    cases x6
    · obtain ⟨⟨t0, t1, -⟩, ⟨d0, d1⟩, k0, k1⟩ := hy
      obtain ⟨⟨s0, s1, -⟩, ⟨c0, c1⟩, f0, f1⟩ := id hx
      obtain ⟨-, ⟨e0, e1⟩, -⟩ := hx.put (.int .i64 (1+x1)) (.int .i64 x2)
      unfold put2 at e0 e1
      go_wp2
      (try simp only [Exit.inBlock, Exit.then])
      exact bodyPost_ret (v := .agg #[.int .i64 (1+x1), .int .i64 x2]) (by simp [results, Try.results74, go_sem, e0, e1]) rfl ⟨_, _, rfl, ⟨_, by omega, hr6.put2 hx (.int .i64 (1+x1)) (.int .i64 x2)⟩, hK.put2 (Nat.le_refl _) (.int .i64 (1+x1)) (.int .i64 x2)⟩
    · go_wp2_with fail
      refine (pick_any _ _ _ _ (hr6.alloc _) (by omega)).mono ?_
      rintro e w7 ⟨x7, rfl, hx7, hr7, hk7⟩
      have g7 := hx7 (by omega)
      have hx := (hx.alloc _).keep hk7
      have hy := (hy.alloc _).keep hk7
      have hK := (hK.alloc _).trans hk7
      obtain ⟨xa, ya, r0, r1⟩ := hk7.pairs hr6.1 rfl x7.toNat (by simp; omega)
      clear hx7 hk7
      obtain ⟨⟨t0, t1, -⟩, ⟨d0, d1⟩, k0, k1⟩ := id hy
      obtain ⟨⟨s0, s1, -⟩, ⟨c0, c1⟩, f0, f1⟩ := id hx
      have hX := hx.other hne hy.1.2.1 (.int .i64 xa) (.int .i64 ya)
      obtain ⟨-, ⟨d2, d3⟩, -⟩ := hy.put (.int .i64 xa) (.int .i64 ya)
      obtain ⟨-, ⟨e0, e1⟩, -⟩ := hX.put (.int .i64 xa) (.int .i64 ya)
      unfold put2 at e0 e1 d2 d3
      have hr7 := (hr7.put2 hy (.int .i64 xa) (.int .i64 ya)).put2 hX (.int .i64 xa) (.int .i64 ya)
      have hK := (hK.put2 (b := w2.heap.size) hf2 (.int .i64 xa) (.int .i64 ya)).put2 (Nat.le_refl _) (.int .i64 xa) (.int .i64 ya)
      clear hX hx hy
      go_wp2
      (try simp only [Exit.inBlock, Exit.then])
      exact bodyPost_ret (v := .agg #[.int .i64 xa, .int .i64 ya]) (by simp [results, Try.results74, go_sem, e0, e1]) rfl ⟨_, _, rfl, ⟨_, by omega, hr7⟩, hK⟩
end Go.Proofs.Ytfllhncilfkamaa
