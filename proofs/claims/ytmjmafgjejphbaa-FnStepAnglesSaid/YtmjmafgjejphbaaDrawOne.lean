/-
  The draws of one number out of a few.
-/
import Derived.Test.YtmjmafgjejphbaaDraw
namespace Go.Proofs.Ytmjmafgjejphbaa
open Go.RowKit

set_option maxHeartbeats 400000 in
theorem drawStepAngle_any (a : Option Addr) (len cap : Nat) (zs : Nat → Int) (w : World) (h : Row8 w w.heap.size a len cap zs) :
    Calls Try.prog 61 #[.slice a len cap] w (Drew1 w) := by
  have H := Lib.hid h
  clear h
  go_enter Try.func61, Try.ntmps61
  go_wp2_with (first | (go_at_call 73; refine (l20Open_any _ _ _ _ _ H.out).mono ?_; rintro e w1 ⟨rfl, hr, hk⟩) | (go_at_call 84; refine (pick_any _ _ _ _ (by assumption) ?_).mono ?_; (omega); rintro e w2 ⟨x, rfl, hx, hr2, hk2⟩; have hx1 := hx (by omega); clear hx))
  go_ret
  exact ⟨_, rfl, (hk.trans hk2).below (by omega) (by omega)⟩

set_option maxHeartbeats 400000 in
theorem drawStepAngles_any (a : Option Addr) (len cap : Nat) (zs : Nat → Int) (w : World) (h : Row8 w w.heap.size a len cap zs) :
    Calls Try.prog 68 #[.slice a len cap] w (Drew1 w) := by
  have H := Lib.hid h
  clear h
  go_enter Try.func68, Try.ntmps68
  go_wp2_with (first | (go_at_call 73; refine (l20Open_any _ _ _ _ _ H.out).mono ?_; rintro e w1 ⟨rfl, hr, hk⟩) | (go_at_call 84; refine (pick_any _ _ _ _ (by assumption) ?_).mono ?_; (omega); rintro e w2 ⟨x, rfl, hx, hr2, hk2⟩; have hx1 := hx (by omega); clear hx))
  go_ret
  exact ⟨_, rfl, (hk.trans hk2).below (by omega) (by omega)⟩

set_option maxHeartbeats 400000 in
theorem drawGrowthSpan_any (a : Option Addr) (len cap : Nat) (zs : Nat → Int) (w : World) (h : Row8 w w.heap.size a len cap zs) :
    Calls Try.prog 53 #[.slice a len cap] w (Drew1 w) := by
  have H := Lib.hid h
  clear h
  go_enter Try.func53, Try.ntmps53
  go_wp2_with (first | (go_at_call 73; refine (l20Open_any _ _ _ _ _ H.out).mono ?_; rintro e w1 ⟨rfl, hr, hk⟩) | (go_at_call 84; refine (pick_any _ _ _ _ (by assumption) ?_).mono ?_; (omega); rintro e w2 ⟨x, rfl, hx, hr2, hk2⟩; have hx1 := hx (by omega); clear hx))
  go_ret
  exact ⟨_, rfl, (hk.trans hk2).below (by omega) (by omega)⟩

set_option maxHeartbeats 400000 in
theorem drawStartOf_any (a : Option Addr) (len cap : Nat) (zs : Nat → Int) (w : World) (h : Row8 w w.heap.size a len cap zs) :
    Calls Try.prog 60 #[.slice a len cap] w (Drew1 w) := by
  have H := Lib.hid h
  clear h
  go_enter Try.func60, Try.ntmps60
  go_wp2_with (first | (go_at_call 73; refine (l20Open_any _ _ _ _ _ H.out).mono ?_; rintro e w1 ⟨rfl, hr, hk⟩) | (go_at_call 84; refine (pick_any _ _ _ _ (by assumption) ?_).mono ?_; (omega); rintro e w2 ⟨x, rfl, hx, hr2, hk2⟩; have hx1 := hx (by omega); clear hx))
  go_ret
  exact ⟨_, rfl, (hk.trans hk2).below (by omega) (by omega)⟩

end Go.Proofs.Ytmjmafgjejphbaa
