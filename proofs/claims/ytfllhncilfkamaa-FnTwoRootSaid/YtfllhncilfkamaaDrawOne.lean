/-
  The draws of one number out of a few.
-/
import Derived.Test.YtfllhncilfkamaaDraw
namespace Go.Proofs.Ytfllhncilfkamaa
open Go.RowKit

set_option maxHeartbeats 400000 in
theorem drawTwoRoot_any (a : Option Addr) (len cap : Nat) (zs : Nat → Int) (w : World) (h : Row8 w w.heap.size a len cap zs) :
    Calls Try.prog 40 #[.slice a len cap] w (Drew1 w) := by
  have H := Lib.hid h
  clear h
  go_enter Try.func40, Try.ntmps40
  go_wp2_with (first | (go_at_call 57; refine (l20Open_any _ _ _ _ _ H.out).mono ?_; rintro e w1 ⟨rfl, hr, hk⟩) | (go_at_call 59; refine (pick_any _ _ _ _ (by assumption) ?_).mono ?_; (omega); rintro e w2 ⟨x, rfl, hx, hr2, hk2⟩; have hx1 := hx (by omega); clear hx))
  go_ret
  exact ⟨_, rfl, (hk.trans hk2).below (by omega) (by omega)⟩

