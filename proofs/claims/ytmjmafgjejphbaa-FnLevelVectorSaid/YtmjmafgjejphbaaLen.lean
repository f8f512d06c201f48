/-
  The number of binary digits: BitLength.
-/
import Derived.Test.YtmjmafgjejphbaaInt
import Derived.Test.YtmjmafgjejphbaaLen0
namespace Go.Proofs.Ytmjmafgjejphbaa
open Go.RowKit

/-- between which powers of two a number is -/
theorem bitLen_pow : ∀ (f x : Nat), 1 ≤ x → x < 2 ^ f → 1 ≤ Lib.bitLenAux f x ∧ Lib.bitLenAux f x ≤ f ∧ 2 ^ (Lib.bitLenAux f x - 1) ≤ x ∧ x < 2 ^ Lib.bitLenAux f x
  | 0, x, h0, h1 => by simp at h1; omega
  | f + 1, x, h0, h1 => by
    rw [Lib.bitLenAux, if_neg (by omega)]
    by_cases h : x = 1
    · subst h
      have : Lib.bitLenAux f (1 / 2) = 0 := by cases f <;> simp [Lib.bitLenAux]
      rw [this]; simp
    · have hp : 2 ^ (f + 1) = 2 * 2 ^ f := by rw [Nat.pow_succ, Nat.mul_comm]
      obtain ⟨a, b, c, d⟩ := bitLen_pow f (x / 2) (by omega) (by omega)
      generalize Lib.bitLenAux f (x / 2) = k at *
      obtain ⟨k, rfl⟩ : ∃ j, k = j + 1 := ⟨k - 1, by omega⟩
      have e1 : 1 + (k + 1) - 1 = k + 1 := by omega
      have e2 : 2 ^ (1 + (k + 1)) = 2 * 2 ^ (k + 1) := by rw [Nat.add_comm, Nat.pow_succ, Nat.mul_comm]
      have e3 : k + 1 - 1 = k := by omega
      have e4 : 2 ^ (k + 1) = 2 * 2 ^ k := by rw [Nat.pow_succ, Nat.mul_comm]
      rw [e1, e2]
      rw [e3] at c
      refine ⟨by omega, by omega, by omega, by omega⟩

set_option maxHeartbeats 400000 in
theorem bitLength_any (n : Int) (w : World) (h0 : 0 ≤ n) (h1 : n ≤ 1152921504606846976) :
    Calls Try.prog 83 #[.int .i64 n] w fun e w' => e = .returned (.int .i64 (Lib.bitLen n.toNat)) ∧ w = w' := by
  go_enter Try.func83, Try.ntmps83
  go_wp2_with (go_at_call 105; refine (len64_any _ _ ?_ ?_).mono ?_; omega; omega; rintro e w' ⟨rfl, rfl⟩)
  go_ret
  exact ⟨rfl, rfl⟩

end Go.Proofs.Ytmjmafgjejphbaa
