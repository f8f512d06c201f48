/-
  The draws of angles.
-/
import Derived.Test.YtmjmafgjejphbaaDraw
namespace Go.Proofs.Ytmjmafgjejphbaa
open Go.RowKit

set_option maxHeartbeats 400000 in
theorem drawCosSin_any (a : Option Addr) (len cap : Nat) (zs : Nat → Int) (w : World) (h : Row8 w w.heap.size a len cap zs) :
    Calls Try.prog 24 #[.slice a len cap] w (Drew1 w) := by
  have H := Lib.hid h
  clear h
  go_enter Try.func24, Try.ntmps24
  go_wp2_with (first | (go_at_call 73; refine (l20Open_any _ _ _ _ _ H.out).mono ?_; rintro e w1 ⟨rfl, hr, hk⟩) | (go_at_call 72; refine (l20Angle_any _ _ _ (by assumption) ?_).mono ?_; (omega); rintro e w2 ⟨x, rfl, hr2, hk2⟩))
  go_ret
  exact ⟨x, rfl, (hk.trans hk2).below (by omega) (by omega)⟩

set_option maxHeartbeats 400000 in
theorem drawSine_any (a : Option Addr) (len cap : Nat) (zs : Nat → Int) (w : World) (h : Row8 w w.heap.size a len cap zs) :
    Calls Try.prog 30 #[.slice a len cap] w (Drew1 w) := by
  have H := Lib.hid h
  clear h
  go_enter Try.func30, Try.ntmps30
  go_wp2_with (first | (go_at_call 73; refine (l20Open_any _ _ _ _ _ H.out).mono ?_; rintro e w1 ⟨rfl, hr, hk⟩) | (go_at_call 72; refine (l20Angle_any _ _ _ (by assumption) ?_).mono ?_; (omega); rintro e w2 ⟨x, rfl, hr2, hk2⟩))
  go_ret
  exact ⟨x, rfl, (hk.trans hk2).below (by omega) (by omega)⟩

set_option maxHeartbeats 400000 in
theorem drawCosine_any (a : Option Addr) (len cap : Nat) (zs : Nat → Int) (w : World) (h : Row8 w w.heap.size a len cap zs) :
    Calls Try.prog 40 #[.slice a len cap] w (Drew1 w) := by
  have H := Lib.hid h
  clear h
  go_enter Try.func40, Try.ntmps40
  go_wp2_with (first | (go_at_call 73; refine (l20Open_any _ _ _ _ _ H.out).mono ?_; rintro e w1 ⟨rfl, hr, hk⟩) | (go_at_call 72; refine (l20Angle_any _ _ _ (by assumption) ?_).mono ?_; (omega); rintro e w2 ⟨x, rfl, hr2, hk2⟩))
  go_ret
  exact ⟨x, rfl, (hk.trans hk2).below (by omega) (by omega)⟩

end Go.Proofs.Ytmjmafgjejphbaa
