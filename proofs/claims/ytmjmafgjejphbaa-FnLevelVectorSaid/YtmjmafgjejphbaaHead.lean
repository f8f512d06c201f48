/-
  Closed facts on the head of this seat's dump, proved word by word: the kernel's own reading of a long string's signs takes more than 10 GB.
-/
import Derived.Test.YtmjmafgjejphbaaRows
import Derived.JoinedOf
import Derived.KernelRfl
namespace Go.Proofs.Ytmjmafgjejphbaa
open Go

/-! The head of the dump, sign by sign: its first three words are 'harness', a sum, 'cut'. -/
def signs (l : List Nat) : List Char := l.map Char.ofNat
def headA : List Char := signs [104, 97, 114, 110, 101, 115, 115]
def headB : List Char := signs [101, 102, 54, 99, 48, 99, 54, 50, 98, 49, 57, 50, 99, 100, 48, 50, 55, 51, 53, 98, 48, 56, 50, 49, 52, 101, 57, 97, 54, 51, 56, 99, 53, 97, 102, 54, 100, 48, 53, 52, 55, 101, 101, 53, 56, 57, 97, 55, 50, 97, 51, 99, 101, 102, 51, 102, 51, 52, 50, 48, 97, 54, 49, 100]
def headC : List Char := signs [99, 117, 116]
def headD : List Char := signs [97, 116, 32, 108, 111, 111, 112, 46, 101, 120, 97, 109, 112, 108, 101, 47, 102, 105, 120, 101, 100, 109, 97, 116, 104, 47, 108, 97, 119, 115, 46, 70, 110, 67, 111, 115, 83, 105, 110, 32, 108, 111, 111, 112, 46, 101, 120, 97, 109, 112, 108, 101, 47, 102, 105, 120, 101, 100, 109, 97, 116, 104, 47, 108, 97, 119, 115, 46, 70, 110, 83, 105, 110, 101, 32, 108, 111, 111, 112, 46, 101, 120, 97, 109, 112, 108, 101, 47, 102, 105, 120, 101, 100, 109, 97, 116, 104, 47, 108, 97, 119, 115, 46, 70, 110, 69, 120, 97, 99, 116, 80, 105, 83, 112, 97, 110, 32, 108, 111, 111, 112, 46, 101, 120, 97, 109, 112, 108, 101, 47, 102, 105, 120, 101, 100, 109, 97, 116, 104, 47, 108, 97, 119, 115, 46, 70, 110, 65, 114, 99, 83, 112, 97, 110, 32, 108, 111, 111, 112, 46, 101, 120, 97, 109, 112, 108, 101, 47, 102, 105, 120, 101, 100, 109, 97, 116, 104, 47, 108, 97, 119, 115, 46, 70, 110, 67, 111, 115, 105, 110, 101, 32, 108, 111, 111, 112, 46, 101, 120, 97, 109, 112, 108, 101, 47, 102, 105, 120, 101, 100, 109, 97, 116, 104, 47, 108, 97, 119, 115, 46, 70, 110, 80, 105, 83, 112, 97, 110, 32, 108, 111, 111, 112, 46, 101, 120, 97, 109, 112, 108, 101, 47, 102, 105, 120, 101, 100, 109, 97, 116, 104, 47, 108, 97, 119, 115, 46, 70, 110, 69, 120, 97, 99, 116, 71, 114, 111, 119, 116, 104, 83, 112, 97, 110, 32, 108, 111, 111, 112, 46, 101, 120, 97, 109, 112, 108, 101, 47, 102, 105, 120, 101, 100, 109, 97, 116, 104, 47, 108, 97, 119, 115, 46, 70, 110, 69, 120, 97, 99, 116, 83, 116, 101, 112, 65, 110, 103, 108, 101, 32, 108, 111, 111, 112, 46, 101, 120, 97, 109, 112, 108, 101, 47, 102, 105, 120, 101, 100, 109, 97, 116, 104, 47, 108, 97, 119, 115, 46, 70, 110, 69, 120, 97, 99, 116, 83, 116, 97, 114, 116, 79, 102, 32, 108, 111, 111, 112, 46, 101, 120, 97, 109, 112, 108, 101, 47, 102, 105, 120, 101, 100, 109, 97, 116, 104, 47, 108, 97, 119, 115, 46, 70, 110, 71, 114, 111, 119, 116, 104, 83, 112, 97, 110, 32, 108, 111, 111, 112, 46, 101, 120, 97, 109, 112, 108, 101, 47, 102, 105, 120, 101, 100, 109, 97, 116, 104, 47, 108, 97, 119, 115, 46, 70, 110, 69, 120, 97, 99, 116, 83, 116, 101, 112, 65, 110, 103, 108, 101, 115, 32, 108, 111, 111, 112, 46, 101, 120, 97, 109, 112, 108, 101, 47, 102, 105, 120, 101, 100, 109, 97, 116, 104, 47, 108, 97, 119, 115, 46, 70, 110, 83, 116, 97, 114, 116, 79, 102, 32, 108, 111, 111, 112, 46, 101, 120, 97, 109, 112, 108, 101, 47, 102, 105, 120, 101, 100, 109, 97, 116, 104, 47, 108, 97, 119, 115, 46, 70, 110, 83, 116, 101, 112, 65, 110, 103, 108, 101, 32, 108, 111, 111, 112, 46, 101, 120, 97, 109, 112, 108, 101, 47, 102, 105, 120, 101, 100, 109, 97, 116, 104, 47, 108, 97, 119, 115, 46, 70, 110, 69, 120, 97, 99, 116, 84, 117, 114, 110, 86, 101, 99, 116, 111, 114, 32, 108, 111, 111, 112, 46, 101, 120, 97, 109, 112, 108, 101, 47, 102, 105, 120, 101, 100, 109, 97, 116, 104, 47, 108, 97, 119, 115, 46, 70, 110, 69, 120, 97, 99, 116, 76, 101, 118, 101, 108, 86, 101, 99, 116, 111, 114, 32, 108, 111, 111, 112, 46, 101, 120, 97, 109, 112, 108, 101, 47, 102, 105, 120, 101, 100, 109, 97, 116, 104, 47, 108, 97, 119, 115, 46, 70, 110, 83, 116, 101, 112, 65, 110, 103, 108, 101, 115, 32, 108, 111, 111, 112, 46, 101, 120, 97, 109, 112, 108, 101, 47, 102, 105, 120, 101, 100, 109, 97, 116, 104, 47, 108, 97, 119, 115, 46, 70, 110, 76, 101, 118, 101, 108, 86, 101, 99, 116, 111, 114, 32, 108, 111, 111, 112, 46, 101, 120, 97, 109, 112, 108, 101, 47, 102, 105, 120, 101, 100, 109, 97, 116, 104, 47, 108, 97, 119, 115, 46, 70, 110, 84, 117, 114, 110, 86, 101, 99, 116, 111, 114, 32, 108, 111, 111, 112, 46, 101, 120, 97, 109, 112, 108, 101, 47, 102, 105, 120, 101, 100, 109, 97, 116, 104, 47, 108, 97, 119, 115, 46, 70, 110, 69, 120, 97, 99, 116, 67, 111, 115, 83, 105, 110, 32, 108, 111, 111, 112, 46, 101, 120, 97, 109, 112, 108, 101, 47, 102, 105, 120, 101, 100, 109, 97, 116, 104, 47, 108, 97, 119, 115, 46, 70, 110, 69, 120, 97, 99, 116, 67, 111, 115, 105, 110, 101, 32, 108, 111, 111, 112, 46, 101, 120, 97, 109, 112, 108, 101, 47, 102, 105, 120, 101, 100, 109, 97, 116, 104, 47, 108, 97, 119, 115, 46, 70, 110, 69, 120, 97, 99, 116, 83, 105, 110, 101]
set_option maxRecDepth 100000 in
theorem head_is : Try.prog.initOrder = String.ofList (headA ++ Char.ofNat 32 :: (headB ++ Char.ofNat 32 :: (headC ++ Char.ofNat 32 :: headD))) := by kernel_rfl
theorem ws_word (r : List Char) : ∀ w : List Char, w.all (fun c => c != Char.ofNat 32) = true → wordsSigns (w ++ Char.ofNat 32 :: r) = w :: wordsSigns r
  | [], _ => rfl
  | c :: t, h => by
    simp only [List.all_cons, Bool.and_eq_true] at h
    have ih := ws_word r t h.2
    have hc : c ≠ Char.ofNat 32 := by simpa using h.1
    rw [List.cons_append, wordsSigns.eq_3 _ _ hc, ih]
theorem head_words : wordsSigns Try.prog.initOrder.toList = headA :: headB :: headC :: wordsSigns headD := by
  rw [head_is, String.toList_ofList, ws_word _ headA (by decide +kernel), ws_word _ headB (by decide +kernel), ws_word _ headC (by decide +kernel)]
theorem headA_is : headA = "harness".toList := by decide +kernel
theorem headC_is : headC = "cut".toList := by decide +kernel
theorem headB_is : isSumSigns headB = true := by decide +kernel
theorem head_behind : behindMainWord (wordsSigns Try.prog.initOrder.toList) = "cut".toList :: wordsSigns headD := by
  have e : (("harness".toList == "harness".toList || "harness".toList == "ownmain".toList) && isSumSigns headB) = true := by rw [headB_is]; decide +kernel
  rw [head_words, headA_is, headC_is]
  rw [behindMainWord, if_pos e]
theorem strip_cut (ws : List (List Char)) : ∀ o : List String, (o.all fun x => !("cut".toList == x.toList)) = true → stripLifts o ("cut".toList :: ws) = ([], "cut".toList :: ws)
  | [], _ => rfl
  | x :: os, h => by
    simp only [List.all_cons, Bool.and_eq_true, Bool.not_eq_true'] at h
    rw [stripLifts, h.1, strip_cut ws os h.2]
    rfl
theorem strip_lifts (ws : List (List Char)) : stripLifts liftWords ("cut".toList :: ws) = ([], "cut".toList :: ws) := strip_cut ws liftWords (by decide +kernel)
theorem make_of (P : Program) (ws : List (List Char)) (h : behindMainWord (wordsSigns P.initOrder.toList) = "cut".toList :: ws) : P.make = some .cut := by
  have e1 : ("cut".toList == "gc".toList || "cut".toList == "spec".toList) = false := by decide +kernel
  have e2 : ("cut".toList == "cut".toList) = true := by decide +kernel
  unfold Program.make
  rw [h]
  simp only [e1, e2, Bool.true_or, if_true, Bool.false_eq_true, if_false]
theorem headLifts_of (P : Program) (ws : List (List Char)) (h : behindMainWord (wordsSigns P.initOrder.toList) = "cut".toList :: ws) : P.headLifts = [] := by
  unfold Program.headLifts
  rw [h, strip_lifts]
  exact ite_self _
theorem liftsFinal_of (P : Program) (ws : List (List Char)) (h : behindMainWord (wordsSigns P.initOrder.toList) = "cut".toList :: ws) : P.liftsFinal = false := by
  have e1 : ((some "cut".toList : Option (List Char)) == some "carried".toList) = false := by decide +kernel
  unfold Program.liftsFinal
  rw [h, headLifts_of P ws h]
  simp only [List.head?_cons, e1, Bool.false_and, Bool.false_or, List.contains_nil]
theorem mayEnter_of (P : Program) (ws : List (List Char)) (h : behindMainWord (wordsSigns P.initOrder.toList) = "cut".toList :: ws) (h1 : P.laysLater = false) (h2 : P.bearsReflect = false) (h3 : P.doorFits [] = true) : P.mayEnter = true := by
  have e2 : ((some "cut".toList : Option (List Char)) == some "cut".toList) = true := by decide +kernel
  unfold Program.mayEnter
  rw [h]
  simp only [strip_lifts, List.head?_cons, e2, h1, h2, h3, List.contains_nil, Bool.not_false, Bool.or_true, Bool.and_true]
theorem make_ok : Try.prog.make = some .cut := make_of _ _ head_behind
theorem liftsFinal_ok : Try.prog.liftsFinal = false := liftsFinal_of _ _ head_behind
theorem laysLater_ok : Try.prog.laysLater = false := by kernel_rfl
theorem bearsReflect_ok : Try.prog.bearsReflect = false := by kernel_rfl
theorem doorFits_ok : Try.prog.doorFits [] = true := by kernel_rfl
theorem mayEnter_ok : Try.prog.mayEnter = true := mayEnter_of _ _ head_behind laysLater_ok bearsReflect_ok doorFits_ok

end Go.Proofs.Ytmjmafgjejphbaa
