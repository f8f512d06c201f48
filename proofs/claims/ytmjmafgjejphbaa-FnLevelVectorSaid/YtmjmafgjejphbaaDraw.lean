/-
  The draws: each returns some values of its types, whatever its code is, and writes nothing that was there.
-/
import Derived.Test.YtmjmafgjejphbaaPick
namespace Go.Proofs.Ytmjmafgjejphbaa
open Go.RowKit

/-- A number has been drawn with the reader in block B: at most C picks. -/
def DrewInt (w : World) (B : Nat) (p C : Int) (e : Ending) (w' : World) : Prop :=
  ∃ x : Int, e = .returned (.int .i64 x) ∧ (∃ q, q ≤ p + C ∧ Rd w' B q) ∧ Kept B w w'
/-- What a draw has drawn: one number, two; a pair; a pair and a number ..: whatever they are; below nothing has turned. -/
def Drew1 (w : World) (e : Ending) (w' : World) : Prop := ∃ x : Int, e = .returned (.int .i64 x) ∧ Below w.heap.size w w'
def Drew2 (w : World) (e : Ending) (w' : World) : Prop := ∃ x y : Int, e = .returned (.tuple #[.int .i64 x, .int .i64 y]) ∧ Below w.heap.size w w'
def DrewBool (w : World) (B : Nat) (p C : Int) (e : Ending) (w' : World) : Prop :=
  ∃ x : Bool, e = .returned (.bool x) ∧ (∃ q, q ≤ p + C ∧ Rd w' B q) ∧ Kept B w w'

set_option maxHeartbeats 400000 in
theorem odd_any (B : Nat) (p n : Int) (w : World) (h : Rd w B p) (hp : p ≤ 1000000) (hn : 1 ≤ n ∧ n ≤ 1000) :
    Calls Try.prog 112 #[.pointer (some ⟨B, 0, none⟩), .int .i64 n] w (DrewBool w B p 1) := by
  have H := Lib.hid h
  clear h
  go_enter Try.func112, Try.ntmps112
  go_wp2_with (go_at_call 84; refine (pick_any _ _ _ _ H.out (by omega)).mono ?_; rintro e w1 ⟨x, rfl, hx, hr, hk⟩)
  go_ret
  exact ⟨_, rfl, ⟨_, by omega, hr⟩, hk⟩

set_option maxHeartbeats 1000000 in
theorem l20Angle_any (B : Nat) (p : Int) (w : World) (h : Rd w B p) (hp : p ≤ 1000000) :
    Calls Try.prog 72 #[.pointer (some ⟨B, 0, none⟩)] w (DrewInt w B p 8) := by
  have hB := h.1
  have hk := Kept.refl B w
  go_enter Try.func72, Try.ntmps72
  go_wp2_with (go_at_call 84; refine (pick_any _ _ _ _ (by assumption) ?_).mono ?_; (omega); rintro e w1 ⟨x, rfl, hx, hr, hk1⟩; (have hx1 := hx (by omega)); (have hk := Kept.trans (a := w) (by assumption) hk1); clear hx hk1)
  refine (pick_any _ _ _ _ (Rd.alloc (Rd.alloc (by assumption) _) _) (by omega)).mono ?_
  rintro e w9 ⟨x, rfl, hx, hr9, hk9⟩
  have hx1 := hx (by omega)
  have hB1 : B < w1.heap.size := hr.1
  obtain ⟨v, hv, c1⟩ := hk9.tab2 hB1 0 7 rfl x.toNat (by simp; omega)
  obtain ⟨u, c2⟩ := hk9.row2 hB1 rfl v.toNat (by simp; omega)
  clear hx
  go_wp2
  go_ret
  exact ⟨u, rfl, ⟨_, by omega, hr9⟩, ((hk.alloc _).alloc _).trans hk9⟩

set_option maxHeartbeats 1000000 in
theorem l20Open_any (a : Option Addr) (len cap : Nat) (zs : Nat → Int) (w : World) (h : Row8 w w.heap.size a len cap zs) :
    Calls Try.prog 73 #[.slice a len cap] w (fun e w' => e = .returned (.pointer (some ⟨w.heap.size, 0, none⟩)) ∧ Rd w' w.heap.size 0 ∧ Kept w.heap.size w w') := by
  have H := Lib.hid h
  obtain ⟨h1, h2, h3⟩ := h
  by_cases hl : 2000 < len
  · rcases h3 with h3 | ⟨b, off, rfl, hb, hz⟩
    · omega
    · have H2 := Lib.hid (show Row8 w w.heap.size (some ⟨b, off, none⟩) 2000 cap zs from ⟨by omega, h2, .inr ⟨b, off, rfl, hb, fun i hi => hz i (by omega)⟩⟩)
      clear hz
      go_enter Try.func73, Try.ntmps73
      go_wp2
      go_ret
      exact ⟨rfl, Rd.fresh _ H2.out (by omega), (Kept.refl _ w).alloc _⟩
  · clear h3
    go_enter Try.func73, Try.ntmps73
    go_wp2
    go_ret
    exact ⟨rfl, Rd.fresh _ H.out (by omega), (Kept.refl _ w).alloc _⟩

