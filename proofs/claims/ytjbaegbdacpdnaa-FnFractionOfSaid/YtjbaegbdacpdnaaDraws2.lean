/-
  The draws of formats and stored numbers, second part.
-/
import Derived.Test.YtjbaegbdacpdnaaDraws1
namespace Go.Proofs.Ytjbaegbdacpdnaa
open Go.RowKit

set_option maxHeartbeats 1000000 in
theorem drawFormatValid_any (a : Option Addr) (len cap : Nat) (zs : Nat → Int) (w : World) (h : Row8 w w.heap.size a len cap zs) :
    Calls Try.prog 60 #[.slice a len cap] w (DrewF w) := by
  have H := Lib.hid h
  clear h
  go_enter Try.func60, Try.ntmps60
  go_wp2_with fail
  refine (l20Open_at _ _ _ _ w.heap.size _ (H.out.through ((Below.refl _ _).alloc (Nat.le_refl _) _)) (by simp)).mono ?_
  rintro e w1 ⟨B, hB, rfl, hr, hk, ha⟩
  have hx := Box.opened hB hr hk (ha _ (Nat.le_refl _)) rfl
  have hK := ((Kept.refl B w).alloc _).trans hk
  have hB : w.heap.size ≤ B := by simp at hB; omega
  clear hk ha H
  go_wp2_with fail
  refine (l20Format_any _ _ _ _ hr (by omega) (by omega)).mono ?_
  rintro e w2 ⟨f1, f2, rfl, ⟨q, hq, hr2⟩, hk2⟩
  have hx := hx.keep hk2
  have hK := hK.trans hk2
  obtain ⟨⟨s0, s1, -⟩, ⟨c0, c1⟩, z0, z1⟩ := id hx
  obtain ⟨-, ⟨e0, e1⟩, -⟩ := hx.put (.int .i64 f1) (.int .i64 f2)
  unfold put2 at e0 e1
  have hb := (hK.put2 (Nat.le_refl _) (.int .i64 f1) (.int .i64 f2)).below hB (Nat.le_refl _)
  go_wp2
  (try simp only [Exit.inBlock, Exit.then])
  exact bodyPost_ret (v := .agg #[.int .i64 f1, .int .i64 f2]) (by simp [results, Try.results60, go_sem, e0, e1]) rfl ⟨_, _, rfl, hb⟩

set_option maxHeartbeats 1000000 in
theorem drawOneOf_any (a : Option Addr) (len cap : Nat) (zs : Nat → Int) (w : World) (h : Row8 w w.heap.size a len cap zs) :
    Calls Try.prog 51 #[.slice a len cap] w (DrewF w) := by
  have H := Lib.hid h
  clear h
  go_enter Try.func51, Try.ntmps51
  go_wp2_with fail
  refine (l20Open_at _ _ _ _ w.heap.size _ (H.out.through ((Below.refl _ _).alloc (Nat.le_refl _) _)) (by simp)).mono ?_
  rintro e w1 ⟨B, hB, rfl, hr, hk, ha⟩
  have hx := Box.opened hB hr hk (ha _ (Nat.le_refl _)) rfl
  have hK := ((Kept.refl B w).alloc _).trans hk
  have hB : w.heap.size ≤ B := by simp at hB; omega
  clear hk ha H
  go_wp2_with fail
  refine (l20Format_any _ _ _ _ hr (by omega) (by omega)).mono ?_
  rintro e w2 ⟨f1, f2, rfl, ⟨q, hq, hr2⟩, hk2⟩
  have hx := hx.keep hk2
  have hK := hK.trans hk2
  obtain ⟨⟨s0, s1, -⟩, ⟨c0, c1⟩, z0, z1⟩ := id hx
  obtain ⟨-, ⟨e0, e1⟩, -⟩ := hx.put (.int .i64 f1) (.int .i64 f2)
  unfold put2 at e0 e1
  have hb := (hK.put2 (Nat.le_refl _) (.int .i64 f1) (.int .i64 f2)).below hB (Nat.le_refl _)
  go_wp2
  (try simp only [Exit.inBlock, Exit.then])
  exact bodyPost_ret (v := .agg #[.int .i64 f1, .int .i64 f2]) (by simp [results, Try.results51, go_sem, e0, e1]) rfl ⟨_, _, rfl, hb⟩

set_option maxHeartbeats 1000000 in
theorem drawMulStored_any (a : Option Addr) (len cap : Nat) (zs : Nat → Int) (w : World) (h : Row8 w w.heap.size a len cap zs) :
    Calls Try.prog 59 #[.slice a len cap] w (DrewFII w) := by
  have H := Lib.hid h
  clear h
  go_enter Try.func59, Try.ntmps59
  go_wp2_with fail
  refine (l20Open_at _ _ _ _ w.heap.size _ (H.out.through ((Below.refl _ _).alloc (Nat.le_refl _) _)) (by simp)).mono ?_
  rintro e w1 ⟨B, hB, rfl, hr, hk, ha⟩
  have hx := Box.opened hB hr hk (ha _ (Nat.le_refl _)) rfl
  have hK := ((Kept.refl B w).alloc _).trans hk
  have hB : w.heap.size ≤ B := by simp at hB; omega
  clear hk ha H
  go_wp2_with fail
  refine (l20Two_any _ _ _ hr (by omega)).mono ?_
  rintro e w2 ⟨f1, f2, u, v, rfl, ⟨q, hq, hr2⟩, hk2⟩
  have hx := hx.keep hk2
  have hK := hK.trans hk2
  obtain ⟨⟨s0, s1, -⟩, ⟨c0, c1⟩, z0, z1⟩ := id hx
  obtain ⟨-, ⟨e0, e1⟩, -⟩ := hx.put (.int .i64 f1) (.int .i64 f2)
  unfold put2 at e0 e1
  have hb := (hK.put2 (Nat.le_refl _) (.int .i64 f1) (.int .i64 f2)).below hB (Nat.le_refl _)
  go_wp2
  (try simp only [Exit.inBlock, Exit.then])
  exact bodyPost_ret (v := .tuple #[.agg #[.int .i64 f1, .int .i64 f2], .int .i64 u, .int .i64 v]) (by simp [results, Try.results59, go_sem, e0, e1]) rfl ⟨_, _, _, _, rfl, hb⟩

set_option maxHeartbeats 1000000 in
theorem drawDivStored_any (a : Option Addr) (len cap : Nat) (zs : Nat → Int) (w : World) (h : Row8 w w.heap.size a len cap zs) :
    Calls Try.prog 64 #[.slice a len cap] w (DrewFII w) := by
  have H := Lib.hid h
  clear h
  go_enter Try.func64, Try.ntmps64
  go_wp2_with fail
  refine (l20Open_at _ _ _ _ w.heap.size _ (H.out.through ((Below.refl _ _).alloc (Nat.le_refl _) _)) (by simp)).mono ?_
  rintro e w1 ⟨B, hB, rfl, hr, hk, ha⟩
  have hx := Box.opened hB hr hk (ha _ (Nat.le_refl _)) rfl
  have hK := ((Kept.refl B w).alloc _).trans hk
  have hB : w.heap.size ≤ B := by simp at hB; omega
  clear hk ha H
  go_wp2_with fail
  refine (l20Two_any _ _ _ hr (by omega)).mono ?_
  rintro e w2 ⟨f1, f2, u, v, rfl, ⟨q, hq, hr2⟩, hk2⟩
  have hx := (hx.keep hk2).alloc (.cells #[.int .i64 f1, .int .i64 f2] 32)
  have hy := Box.made (.int .i64 f1) (.int .i64 f2) 32 hr2
  have hK := (hK.trans hk2).alloc (.cells #[.int .i64 f1, .int .i64 f2] 32)
  have hr3 := hr2.alloc (.cells #[.int .i64 f1, .int .i64 f2] 32)
  clear hk2
  go_wp2_with fail
  refine (odd_any _ _ _ _ hr3 (by omega) (by omega)).mono ?_
  rintro e w4 ⟨x4, rfl, ⟨q4, hq4, hr4⟩, hk4⟩
  have hx := hx.keep hk4
  have hy := hy.keep hk4
  have hK := hK.trans hk4
  clear hk4 hr3 hr2
  obtain ⟨⟨t0, t1, -⟩, ⟨d0, d1⟩, k0, k1⟩ := hy
  obtain ⟨⟨s0, s1, -⟩, ⟨c0, c1⟩, z0, z1⟩ := id hx
  obtain ⟨-, ⟨e0, e1⟩, -⟩ := hx.put (.int .i64 f1) (.int .i64 f2)
  unfold put2 at e0 e1
  have hb := (hK.put2 (Nat.le_refl _) (.int .i64 f1) (.int .i64 f2)).below hB (Nat.le_refl _)
  cases x4
  · go_wp2
    (try simp only [Exit.inBlock, Exit.then])
    exact bodyPost_ret (v := .tuple #[.agg #[.int .i64 f1, .int .i64 f2], .int .i64 u, .int .i64 v]) (by simp [results, Try.results64, go_sem, e0, e1]) rfl ⟨_, _, _, _, rfl, hb⟩
  · go_wp2
    (try simp only [Exit.inBlock, Exit.then])
    exact bodyPost_ret (v := .tuple #[.agg #[.int .i64 f1, .int .i64 f2], .int .i64 u, .int .i64 0]) (by simp [results, Try.results64, go_sem, e0, e1]) rfl ⟨_, _, _, _, rfl, hb⟩

set_option maxHeartbeats 1000000 in
theorem drawSqrtStored_any (a : Option Addr) (len cap : Nat) (zs : Nat → Int) (w : World) (h : Row8 w w.heap.size a len cap zs) :
    Calls Try.prog 61 #[.slice a len cap] w (DrewFI w) := by
  have H := Lib.hid h
  clear h
  go_enter Try.func61, Try.ntmps61
  go_wp2_with fail
  refine (l20Open_at _ _ _ _ w.heap.size _ (H.out.through ((Below.refl _ _).alloc (Nat.le_refl _) _)) (by simp)).mono ?_
  rintro e w1 ⟨B, hB, rfl, hr, hk, ha⟩
  have hx := Box.opened hB hr hk (ha _ (Nat.le_refl _)) rfl
  have hK := ((Kept.refl B w).alloc _).trans hk
  have hB : w.heap.size ≤ B := by simp at hB; omega
  clear hk ha H
  go_wp2_with fail
  refine (l20Two_any _ _ _ hr (by omega)).mono ?_
  rintro e w2 ⟨f1, f2, u, v, rfl, ⟨q, hq, hr2⟩, hk2⟩
  have hx := (hx.keep hk2).alloc (.cells #[.int .i64 f1, .int .i64 f2] 32)
  have hy := Box.made (.int .i64 f1) (.int .i64 f2) 32 hr2
  have hK := (hK.trans hk2).alloc (.cells #[.int .i64 f1, .int .i64 f2] 32)
  have hr3 := hr2.alloc (.cells #[.int .i64 f1, .int .i64 f2] 32)
  clear hk2
  go_wp2_with fail
  refine (pick_any _ _ _ _ hr3 (by omega)).mono ?_
  rintro e w4 ⟨x4, rfl, hx4, hr4, hk4⟩
  have hx := hx.keep hk4
  have hy := hy.keep hk4
  have hK := hK.trans hk4
  clear hk4 hr3 hr2 hx4
  obtain ⟨⟨t0, t1, -⟩, ⟨d0, d1⟩, k0, k1⟩ := hy
  obtain ⟨⟨s0, s1, -⟩, ⟨c0, c1⟩, z0, z1⟩ := id hx
  obtain ⟨-, ⟨e0, e1⟩, -⟩ := hx.put (.int .i64 f1) (.int .i64 f2)
  unfold put2 at e0 e1
  have hb := (hK.put2 (Nat.le_refl _) (.int .i64 f1) (.int .i64 f2)).below hB (Nat.le_refl _)
  by_cases h4 : 0 < x4
  · by_cases h5 : u < 0
    · go_wp2
      (try simp only [Exit.inBlock, Exit.then])
      exact bodyPost_ret (v := .tuple #[.agg #[.int .i64 f1, .int .i64 f2], .int .i64 (wrap64 (-1 - u))]) (by simp [results, Try.results61, go_sem, e0, e1]) rfl ⟨_, _, _, rfl, hb⟩
    · go_wp2
      (try simp only [Exit.inBlock, Exit.then])
      exact bodyPost_ret (v := .tuple #[.agg #[.int .i64 f1, .int .i64 f2], .int .i64 u]) (by simp [results, Try.results61, go_sem, e0, e1]) rfl ⟨_, _, _, rfl, hb⟩
  · go_wp2
    (try simp only [Exit.inBlock, Exit.then])
    exact bodyPost_ret (v := .tuple #[.agg #[.int .i64 f1, .int .i64 f2], .int .i64 u]) (by simp [results, Try.results61, go_sem, e0, e1]) rfl ⟨_, _, _, rfl, hb⟩

end Go.Proofs.Ytjbaegbdacpdnaa
