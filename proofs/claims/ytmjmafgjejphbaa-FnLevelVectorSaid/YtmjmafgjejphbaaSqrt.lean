/-
  The walks of square roots.
-/
import Derived.Test.YtmjmafgjejphbaaLen
import Derived.Test.YtmjmafgjejphbaaMathC
namespace Go.Proofs.Ytmjmafgjejphbaa
open Go.RowKit

theorem first_root (n : Int) (h0 : 1 ≤ n) (h1 : n ≤ 1152921504606846976) : ∃ L : Nat, Lib.bitLen n.toNat = L ∧ 1 ≤ L ∧ L ≤ 61 ∧ n < (2 : Int) ^ ((L + 1) / 2) * 2 ^ ((L + 1) / 2) ∧ (2 : Int) ^ ((L + 1) / 2) ≤ 2147483648 ∧ 1 ≤ (2 : Int) ^ ((L + 1) / 2) := by
  obtain ⟨a, -, c, d⟩ := bitLen_pow 64 n.toNat (by omega) (by omega)
  refine ⟨Lib.bitLenAux 64 n.toNat, rfl, a, ?_, ?_, ?_, Fx.one_le_pow _⟩
  all_goals generalize Lib.bitLenAux 64 n.toNat = L at *
  · apply Nat.le_of_not_lt; intro hc
    have : 2 ^ 61 ≤ 2 ^ (L - 1) := Nat.pow_le_pow_right (by decide) (by omega)
    have e : (2 : Nat) ^ 61 = 2305843009213693952 := by decide
    omega
  · have h2 : 2 ^ L ≤ 2 ^ ((L + 1) / 2 + (L + 1) / 2) := Nat.pow_le_pow_right (by decide) (by omega)
    have h3 : ((2 ^ ((L + 1) / 2 + (L + 1) / 2) : Nat) : Int) = (2 : Int) ^ ((L + 1) / 2) * 2 ^ ((L + 1) / 2) := by rw [← Fx.pow_split]; push_cast; rfl
    rw [← h3]; omega
  · have hL : L ≤ 61 := by
      apply Nat.le_of_not_lt; intro hc
      have : 2 ^ 61 ≤ 2 ^ (L - 1) := Nat.pow_le_pow_right (by decide) (by omega)
      have e : (2 : Nat) ^ 61 = 2305843009213693952 := by decide
      omega
    exact Fx.pow_le_pow (k := (L + 1) / 2) (n := 31) (by omega)

set_option maxHeartbeats 1000000 in
theorem sqrtFloor_any (n : Int) (w : World) :
    Calls Try.prog 110 #[.int .i64 n] w fun e w' => e = .returned (.int .i64 (Fx.sqrtFloor n)) ∧ w = w' := by
  by_cases hn : 0 ≤ n ∧ n ≤ 1152921504606846976
  · by_cases hz : n = 0
    · subst hz
      go_enter Try.func110, Try.ntmps110
      go_wp2
      go_ret
      exact ⟨ret_i (by decide +kernel), rfl⟩
    · have hz' : (n == 0) = false := by simpa using hz
      obtain ⟨L, hL, h1, h2, h3, h4, h5⟩ := first_root n (by omega) hn.2
      have HS := Lib.hid (Fx.isqrt_spec n hn.1 hn.2)
      have HF := Lib.hid (Fx.sqrtFloor_in n hn.1 hn.2)
      have hi : ((((L : Int) + 1) / 2).toNat) = (L + 1) / 2 := by omega
      have HB : Calls Try.prog 83 #[.int .i64 n] w fun e w' => e = .returned (.int .i64 (L : Int)) ∧ w = w' := by
        rw [← hL]; exact bitLength_any n w hn.1 hn.2
      have H3 := Lib.hid h3
      clear hL h3
      have hb : 1 ≤ (L : Int) ∧ (L : Int) ≤ 61 := by omega
      go_enter Try.func110, Try.ntmps110
      go_wp2_with (go_at_call 83; refine HB.mono ?_; rintro e w' ⟨rfl, rfl⟩)
      clear HB
      go_loop [3, 4] (fun r _ => ∃ x : Int, r = .int .i64 x ∧ (1 ≤ x ∧ x ≤ 2147483648) ∧ n < (x + 1) * (x + 1)) (fun r _ => (intOf r).toNat)
      case atStart =>
        refine ⟨_, rfl, ?_, ?_⟩
        · exact ⟨h5, h4⟩
        · have := Fx.sq_le (s := 2 ^ ((L + 1) / 2)) (t := 2 ^ ((L + 1) / 2) + 1) (by omega) (by omega)
          have := H3.out
          omega
      case round =>
        obtain ⟨x, rfl, hx, hlt⟩ := hrel
        have HL := Lib.hid hlt
        clear hlt
        have hq := Fx.ediv_bounds n x hx.1 1152921504606846976 (by omega) (by omega)
        have hq0 : 0 ≤ n / x := Int.ediv_nonneg (by omega) (by omega)
        obtain ⟨n0, n1, n2⟩ := Fx.newton_step n x (by omega) hx.1
        have N1 := Lib.hid n1
        clear n1
        by_cases he : x ≤ (x + n / x) / 2
        · have HE := Lib.hid (Fx.newton_end n x hx.1 he)
          go_wp2
          go_ret
          refine ⟨ret_i ?_, rfl⟩
          obtain ⟨s0, s1, s2⟩ := HS.out
          rw [HF.out]
          exact Fx.root_unique (by omega) s0 HE.out HL.out s1 s2
        · go_wp2
          go_round
          case rel => exact ⟨_, rfl, by omega, N1.out⟩
          case measure => simp [intOf]; omega
  · have HF := Lib.hid (show -1 = Fx.sqrtFloor n from (if_neg hn).symm)
    have hn' : n < 0 ∨ 1152921504606846976 < n := by omega
    rcases hn' with h | h
    · clear hn
      go_enter Try.func110, Try.ntmps110
      go_wp2
      go_ret
      exact ⟨ret_i HF.out, rfl⟩
    · have h0 : 0 ≤ n := by omega
      clear hn
      go_enter Try.func110, Try.ntmps110
      go_wp2
      go_ret
      exact ⟨ret_i HF.out, rfl⟩

set_option maxHeartbeats 1000000 in
theorem l2Sqrt_any (n : Int) (w : World) (h0 : 0 ≤ n) (h1 : n ≤ 1152921504606846976) :
    Calls Try.prog 109 #[.int .i64 n] w fun e w' => e = .returned (.int .i64 (Fx.isqrt n)) ∧ w = w' := by
  go_enter Try.func109, Try.ntmps109
  go_wp2
  go_loop [3, 4, 5] (fun r k _ => ∃ (j : Nat) (x : Int), j ≤ 31 ∧ k = .int .i64 ((j : Int) - 1) ∧ r = .int .i64 x ∧ 0 ≤ x ∧ x * x ≤ n ∧ Fx.isq j n x = Fx.isqrt n) (fun _ k _ => (intOf k + 1).toNat)
  case atStart => exact ⟨31, 0, by omega, rfl, rfl, by omega, by omega, rfl⟩
  case round =>
    obtain ⟨j, x, hj, rfl, rfl, hx, hxn, hq⟩ := hrel
    cases j with
    | zero =>
      have HQ := Lib.hid hq
      clear hq
      have e : (((0 : Nat) : Int) - 1) = -1 := by omega
      rw [e]
      go_wp2
      go_ret
      exact ⟨ret_i HQ.out, rfl⟩
    | succ i =>
      have e : (((i + 1 : Nat) : Int) - 1) = (i : Int) := by omega
      rw [e]
      have hx2 : x < 1073741825 := Fx.sq_lt (by omega) (by omega)
      have hp : (1 : Int) ≤ 2 ^ i ∧ (2 : Int) ^ i ≤ 1073741824 := ⟨Fx.one_le_pow i, Fx.pow_le_pow (n := 30) (by omega)⟩
      have hm := Fx.mul_bounds' (a := x + 2 ^ i) (b := x + 2 ^ i) (A := 2147483648) (B := 2147483648) (by omega) (by omega)
      have hi : (0 : Int) ≤ i ∧ (i : Int) ≤ 30 := by omega
      have hq' : Fx.isq i n (if (x + 2 ^ i) * (x + 2 ^ i) ≤ n then x + 2 ^ i else x) = Fx.isqrt n := hq
      have E := Lib.hid e
      clear e hq
      by_cases hc : (x + 2 ^ i) * (x + 2 ^ i) ≤ n
      · have HQ := Lib.hid (show Fx.isq i n (x + 2 ^ i) = Fx.isqrt n by rw [if_pos hc] at hq'; exact hq')
        clear hq'
        go_wp2
        go_round
        case rel => exact ⟨i, x + 2 ^ i, by omega, rfl, by go_num, by omega, hc, HQ.out⟩
        case measure => simp [intOf]
      · have HQ := Lib.hid (show Fx.isq i n x = Fx.isqrt n by rw [if_neg hc] at hq'; exact hq')
        clear hq'
        go_wp2
        go_round
        case rel => exact ⟨i, x, by omega, rfl, rfl, by omega, hxn, HQ.out⟩
        case measure => simp [intOf]

end Go.Proofs.Ytmjmafgjejphbaa
