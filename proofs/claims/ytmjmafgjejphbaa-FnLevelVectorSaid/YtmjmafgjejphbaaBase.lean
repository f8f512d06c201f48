/-
  Small words and facts that all walks of this seat share.
-/
import Derived.Test.YtmjmafgjejphbaaRows
import Derived.Test.YtmjmafgjejphbaaMathA
import Derived.WalkKit
import Derived.WalkSpells
import Derived.WalkLawsBesides
import Derived.BigQuiet
import Derived.Lib.Hide
import Derived.Handy
namespace Go.Proofs.Ytmjmafgjejphbaa
open Go.RowKit

theorem ret_b {a b : Bool} (h : a = b) : Ending.returned (.bool a) = .returned (.bool b) := by rw [h]
theorem ret_i {a b : Int} (h : a = b) : Ending.returned (.int .i64 a) = .returned (.int .i64 b) := by rw [h]

theorem ret_ib {a b : Int} {c d : Bool} (h : a = b) (k : c = d) : Ending.returned (.tuple #[.int .i64 a, .bool c]) = .returned (.tuple #[.int .i64 b, .bool d]) := by rw [h, k]
/-- What a contract that makes blocks of its own alone says of the cells that were there: rules for the walk. -/
theorem bcell {W w1 : World} (hb : Below W.heap.size W w1) : (∀ b o, b < W.heap.size → w1.cell? ⟨b, o, none⟩ = W.cell? ⟨b, o, none⟩) ∧ (∀ b o, b < W.heap.size → w1.frozen? ⟨b, o, none⟩ = W.frozen? ⟨b, o, none⟩) ∧ ∀ b, b < W.heap.size → b < w1.heap.size :=
  ⟨fun b o h => hb.cell (p := ⟨b, o, none⟩) h, fun b o h => hb.frozen (p := ⟨b, o, none⟩) h, fun _ h => Nat.lt_of_lt_of_le h hb.size⟩
/-- One cell and one size are kept by a call that makes blocks of its own alone. -/
theorem keep_cell {W w1 : World} {b o : Nat} {v : Value} (hb : Below W.heap.size W w1) (h : b < W.heap.size ∧ W.cell? ⟨b, o, none⟩ = some v) : b < w1.heap.size ∧ w1.cell? ⟨b, o, none⟩ = some v :=
  ⟨Nat.lt_of_lt_of_le h.1 hb.size, by rw [hb.cell (p := ⟨b, o, none⟩) h.1]; exact h.2⟩
theorem keep2 {W w1 : World} {b : Nat} {v u : Value} (hb : Below W.heap.size W w1) (h : b < W.heap.size ∧ W.cell? ⟨b, 0, none⟩ = some v ∧ W.cell? ⟨b, 1, none⟩ = some u) :
    b < w1.heap.size ∧ w1.cell? ⟨b, 0, none⟩ = some v ∧ w1.cell? ⟨b, 1, none⟩ = some u :=
  ⟨Nat.lt_of_lt_of_le h.1 hb.size, by rw [hb.cell (p := ⟨b, 0, none⟩) h.1]; exact h.2.1, by rw [hb.cell (p := ⟨b, 1, none⟩) h.1]; exact h.2.2⟩
theorem keep3 {W w1 : World} {b : Nat} {v u x : Value} (hb : Below W.heap.size W w1) (h : b < W.heap.size ∧ W.cell? ⟨b, 0, none⟩ = some v ∧ W.cell? ⟨b, 1, none⟩ = some u ∧ W.cell? ⟨b, 2, none⟩ = some x) :
    b < w1.heap.size ∧ w1.cell? ⟨b, 0, none⟩ = some v ∧ w1.cell? ⟨b, 1, none⟩ = some u ∧ w1.cell? ⟨b, 2, none⟩ = some x :=
  ⟨Nat.lt_of_lt_of_le h.1 hb.size, by rw [hb.cell (p := ⟨b, 0, none⟩) h.1]; exact h.2.1, by rw [hb.cell (p := ⟨b, 1, none⟩) h.1]; exact h.2.2.1, by rw [hb.cell (p := ⟨b, 2, none⟩) h.1]; exact h.2.2.2⟩
theorem keep_two {w W w1 : World} {b : Nat} {v u : Value} (hb : Below W.heap.size W w1) (h : Below w.heap.size w W ∧ b < W.heap.size ∧ W.cell? ⟨b, 0, none⟩ = some v ∧ W.cell? ⟨b, 1, none⟩ = some u) :
    Below w.heap.size w w1 ∧ b < w1.heap.size ∧ w1.cell? ⟨b, 0, none⟩ = some v ∧ w1.cell? ⟨b, 1, none⟩ = some u :=
  ⟨h.1.trans (hb.mono h.1.size), Nat.lt_of_lt_of_le h.2.1 hb.size, by rw [hb.cell (p := ⟨b, 0, none⟩) h.2.1]; exact h.2.2.1, by rw [hb.cell (p := ⟨b, 1, none⟩) h.2.1]; exact h.2.2.2⟩
theorem keep_drew {w W : World} {b : Nat} {v u : Value} (h : Below w.heap.size w W ∧ b < W.heap.size ∧ W.cell? ⟨b, 0, none⟩ = some v ∧ W.cell? ⟨b, 1, none⟩ = some u) :
    Below w.heap.size w W.drew ∧ b < W.drew.heap.size ∧ W.drew.cell? ⟨b, 0, none⟩ = some v ∧ W.drew.cell? ⟨b, 1, none⟩ = some u := ⟨h.1.drew, h.2⟩
theorem box_two (w : World) (v u : Value) (T : TypeId) : Below w.heap.size w (w.alloc (.cells #[v, u] T)) ∧ w.heap.size < (w.alloc (.cells #[v, u] T)).heap.size ∧ (w.alloc (.cells #[v, u] T)).cell? ⟨w.heap.size, 0, none⟩ = some v ∧ (w.alloc (.cells #[v, u] T)).cell? ⟨w.heap.size, 1, none⟩ = some u :=
  ⟨(Below.refl _ _).alloc (Nat.le_refl _) _, by simp, by rw [World.cell?_alloc_at (w := w) _ T _ _ rfl]; rfl, by rw [World.cell?_alloc_at (w := w) _ T _ _ rfl]; rfl⟩

/-! Two boxes of two cells; one box of three. -/
theorem keep_four {w W w1 : World} {b c : Nat} {v u x y : Value} (hb : Below W.heap.size W w1)
    (h : Below w.heap.size w W ∧ (b < W.heap.size ∧ W.cell? ⟨b, 0, none⟩ = some v ∧ W.cell? ⟨b, 1, none⟩ = some u) ∧ c < W.heap.size ∧ W.cell? ⟨c, 0, none⟩ = some x ∧ W.cell? ⟨c, 1, none⟩ = some y) :
    Below w.heap.size w w1 ∧ (b < w1.heap.size ∧ w1.cell? ⟨b, 0, none⟩ = some v ∧ w1.cell? ⟨b, 1, none⟩ = some u) ∧ c < w1.heap.size ∧ w1.cell? ⟨c, 0, none⟩ = some x ∧ w1.cell? ⟨c, 1, none⟩ = some y :=
  ⟨h.1.trans (hb.mono h.1.size), keep2 hb h.2.1, keep2 hb h.2.2⟩
theorem keep_drew4 {w W : World} {b c : Nat} {v u x y : Value}
    (h : Below w.heap.size w W ∧ (b < W.heap.size ∧ W.cell? ⟨b, 0, none⟩ = some v ∧ W.cell? ⟨b, 1, none⟩ = some u) ∧ c < W.heap.size ∧ W.cell? ⟨c, 0, none⟩ = some x ∧ W.cell? ⟨c, 1, none⟩ = some y) :
    Below w.heap.size w W.drew ∧ (b < W.drew.heap.size ∧ W.drew.cell? ⟨b, 0, none⟩ = some v ∧ W.drew.cell? ⟨b, 1, none⟩ = some u) ∧ c < W.drew.heap.size ∧ W.drew.cell? ⟨c, 0, none⟩ = some x ∧ W.drew.cell? ⟨c, 1, none⟩ = some y := ⟨h.1.drew, h.2⟩
theorem box_four (w : World) (v u x y : Value) (T T' : TypeId) :
    Below w.heap.size w ((w.alloc (.cells #[v, u] T)).alloc (.cells #[x, y] T')) ∧
    (w.heap.size < ((w.alloc (.cells #[v, u] T)).alloc (.cells #[x, y] T')).heap.size ∧ ((w.alloc (.cells #[v, u] T)).alloc (.cells #[x, y] T')).cell? ⟨w.heap.size, 0, none⟩ = some v ∧ ((w.alloc (.cells #[v, u] T)).alloc (.cells #[x, y] T')).cell? ⟨w.heap.size, 1, none⟩ = some u) ∧
    w.heap.size + 1 < ((w.alloc (.cells #[v, u] T)).alloc (.cells #[x, y] T')).heap.size ∧ ((w.alloc (.cells #[v, u] T)).alloc (.cells #[x, y] T')).cell? ⟨w.heap.size + 1, 0, none⟩ = some x ∧ ((w.alloc (.cells #[v, u] T)).alloc (.cells #[x, y] T')).cell? ⟨w.heap.size + 1, 1, none⟩ = some y := by
  have h1 := box_two w v u T
  have h3 := keep_two (w := w) ((Below.refl _ _).alloc (Nat.le_refl _) (.cells #[x, y] T')) h1
  exact ⟨h3.1, h3.2, by simp⟩
theorem keep_three {w W w1 : World} {b : Nat} {v u x : Value} (hb : Below W.heap.size W w1) (h : Below w.heap.size w W ∧ b < W.heap.size ∧ W.cell? ⟨b, 0, none⟩ = some v ∧ W.cell? ⟨b, 1, none⟩ = some u ∧ W.cell? ⟨b, 2, none⟩ = some x) :
    Below w.heap.size w w1 ∧ b < w1.heap.size ∧ w1.cell? ⟨b, 0, none⟩ = some v ∧ w1.cell? ⟨b, 1, none⟩ = some u ∧ w1.cell? ⟨b, 2, none⟩ = some x :=
  ⟨h.1.trans (hb.mono h.1.size), keep3 hb h.2⟩
theorem keep_drew3 {w W : World} {b : Nat} {v u x : Value} (h : Below w.heap.size w W ∧ b < W.heap.size ∧ W.cell? ⟨b, 0, none⟩ = some v ∧ W.cell? ⟨b, 1, none⟩ = some u ∧ W.cell? ⟨b, 2, none⟩ = some x) :
    Below w.heap.size w W.drew ∧ b < W.drew.heap.size ∧ W.drew.cell? ⟨b, 0, none⟩ = some v ∧ W.drew.cell? ⟨b, 1, none⟩ = some u ∧ W.drew.cell? ⟨b, 2, none⟩ = some x := ⟨h.1.drew, h.2⟩
theorem box_three (w : World) (v u x : Value) (T : TypeId) : Below w.heap.size w (w.alloc (.cells #[v, u, x] T)) ∧ w.heap.size < (w.alloc (.cells #[v, u, x] T)).heap.size ∧ (w.alloc (.cells #[v, u, x] T)).cell? ⟨w.heap.size, 0, none⟩ = some v ∧ (w.alloc (.cells #[v, u, x] T)).cell? ⟨w.heap.size, 1, none⟩ = some u ∧ (w.alloc (.cells #[v, u, x] T)).cell? ⟨w.heap.size, 2, none⟩ = some x :=
  ⟨(Below.refl _ _).alloc (Nat.le_refl _) _, by simp, by rw [World.cell?_alloc_at (w := w) _ T _ _ rfl]; rfl, by rw [World.cell?_alloc_at (w := w) _ T _ _ rfl]; rfl, by rw [World.cell?_alloc_at (w := w) _ T _ _ rfl]; rfl⟩

theorem lt_one_more : ∀ a b : Nat, a < b → a < b + 1 := fun _ _ h => Nat.lt_succ_of_lt h

/-! ### Bits -/
theorem pow_i (k : Nat) : ((2 ^ k : Nat) : Int) = (2 : Int) ^ k := by push_cast; rfl

theorem wrap_nat (m : Nat) (h : m < 9223372036854775808) : IntKind.i64.wrap (m : Int) = m := IntWalk.i64_in _ (by omega)

/-- 'n & (1<<k - 1)' is the rest by the power of two -/
theorem and_mask (n : Int) (k : Nat) (hk : k ≤ 62) : bits .and .i64 n ((2 : Int) ^ k - 1) = n % 2 ^ k := by
  have h1 : (1 : Nat) ≤ 2 ^ k := Nat.one_le_two_pow
  have h2 : 2 ^ k ≤ 2 ^ 62 := Nat.pow_le_pow_right (by decide) hk
  have e62 : (2 : Nat) ^ 62 = 4611686018427387904 := by decide
  have e64 : (2 : Nat) ^ 64 = 18446744073709551616 := by decide
  have hm : (BitVec.ofInt 64 ((2 : Int) ^ k - 1)).toNat = 2 ^ k - 1 := by
    rw [BitVec.toNat_ofInt, ← pow_i k]; omega
  have hn : (BitVec.ofInt 64 n).toNat = (n % 18446744073709551616).toNat := by
    rw [BitVec.toNat_ofInt]; rfl
  have hc : ((n % 18446744073709551616).toNat : Int) = n % 18446744073709551616 := Int.toNat_of_nonneg (Int.emod_nonneg _ (by decide))
  have hd : (2 : Int) ^ k ∣ 18446744073709551616 := by
    rw [← pow_i k]; exact Int.natCast_dvd_natCast.2 (show 2 ^ k ∣ 18446744073709551616 by rw [← e64]; exact Nat.pow_dvd_pow 2 (by omega))
  show IntKind.i64.wrap ((BitVec.ofInt 64 n &&& BitVec.ofInt 64 ((2 : Int) ^ k - 1)).toNat : Int) = _
  rw [BitVec.toNat_and, hm, hn, Nat.and_two_pow_sub_one_eq_mod]
  have hl := Nat.mod_lt (n % 18446744073709551616).toNat (show 0 < 2 ^ k by omega)
  rw [wrap_nat _ (by omega)]
  push_cast
  rw [hc, Int.emod_emod_of_dvd _ hd]

theorem and_one (n : Int) : bits .and .i64 n 1 = n % 2 := and_mask n 1 (by decide)

theorem xor_zero (n : Int) (h : -9223372036854775808 ≤ n ∧ n ≤ 9223372036854775807) : bits .xor .i64 n 0 = n := by
  show IntKind.i64.wrap ((BitVec.ofInt 64 n ^^^ BitVec.ofInt 64 0).toNat : Int) = _
  have e : BitVec.ofInt 64 0 = 0#64 := by decide
  rw [e, BitVec.xor_zero, BitVec.toNat_ofInt, IntKind.wrap_i64]
  have : ((2 ^ 64 : Nat) : Int) = 18446744073709551616 := by decide
  rw [this]; omega

theorem xor_neg (n : Int) (h : -9223372036854775808 ≤ n ∧ n ≤ 9223372036854775807) : bits .xor .i64 n (-1) = -n - 1 := by
  show IntKind.i64.wrap ((BitVec.ofInt 64 n ^^^ BitVec.ofInt 64 (-1)).toNat : Int) = _
  have e : BitVec.ofInt 64 (-1) = BitVec.allOnes 64 := by decide
  rw [e, BitVec.xor_allOnes, BitVec.toNat_not, BitVec.toNat_ofInt, IntKind.wrap_i64]
  have : ((2 ^ 64 : Nat) : Int) = 18446744073709551616 := by decide
  rw [this]; omega

theorem xor_nonneg (a b : Int) (ha : 0 ≤ a ∧ a ≤ 9223372036854775807) (hb : 0 ≤ b ∧ b ≤ 9223372036854775807) : 0 ≤ bits .xor .i64 a b ∧ bits .xor .i64 a b ≤ 9223372036854775807 := by
  have h1 : (BitVec.ofInt 64 a).toNat = a.toNat := by
    rw [BitVec.toNat_ofInt]; have : ((2 ^ 64 : Nat) : Int) = 18446744073709551616 := by decide
    rw [this]; omega
  have h2 : (BitVec.ofInt 64 b).toNat = b.toNat := by
    rw [BitVec.toNat_ofInt]; have : ((2 ^ 64 : Nat) : Int) = 18446744073709551616 := by decide
    rw [this]; omega
  have hx : (a.toNat ^^^ b.toNat) < 2 ^ 63 := Nat.xor_lt_two_pow (by omega) (by omega)
  have e63 : (2 : Nat) ^ 63 = 9223372036854775808 := by decide
  have : bits .xor .i64 a b = ((a.toNat ^^^ b.toNat : Nat) : Int) := by
    show IntKind.i64.wrap ((BitVec.ofInt 64 a ^^^ BitVec.ofInt 64 b).toNat : Int) = _
    rw [BitVec.toNat_xor, h1, h2, wrap_nat _ (by omega)]
  rw [this]; omega

end Go.Proofs.Ytmjmafgjejphbaa
