/-
  'pick' gives a number below n, whatever the code is.
-/
import Derived.Test.YtmjmafgjejphbaaRd
import Derived.Deep.QuietTactic
namespace Go.Proofs.Ytmjmafgjejphbaa
open Go.RowKit

set_option maxHeartbeats 1000000 in
theorem pick_any (B : Nat) (p n : Int) (w : World) (h : Rd w B p) (hp : p ≤ 1000000000) :
    Calls Try.prog 84 #[.pointer (some ⟨B, 0, none⟩), .int .i64 n] w (Picked w B p n) := by
  have H := Lib.hid h
  obtain ⟨hB, hp0, hf, hc, a, len, cap, zs, ⟨h1, h2, h3⟩, h4, h5⟩ := h
  by_cases hn : n < 1
  · clear h3
    go_enter Try.func84, Try.ntmps84
    go_wp2
    go_ret
    exact ⟨0, rfl, fun hh => by omega, H.out.step 0, Kept.of_setCell B 1 w _ 0⟩
  · by_cases hl : len = 0
    · subst hl
      clear h3
      go_enter Try.func84, Try.ntmps84
      go_wp2
      go_ret
      exact ⟨0, rfl, fun hh => by omega, H.out.step 0, Kept.of_setCell B 1 w _ 0⟩
    · rcases h3 with h3 | ⟨b, off, rfl, hb, hz⟩
      · exact absurd h3 hl
      · by_cases hk : p < len
        · obtain ⟨q, rfl⟩ := Int.eq_ofNat_of_zero_le hp0
          obtain ⟨z0, zc⟩ := hz q (by omega)
          go_enter Try.func84, Try.ntmps84
          go_wp2
          go_ret
          exact ⟨_, rfl, fun hh => ⟨Int.emod_nonneg _ (by omega), Int.emod_lt_of_pos _ (by omega)⟩, H.out.step 0, Kept.of_setCell B 1 w _ 0⟩
        · obtain ⟨q, rfl⟩ := Int.eq_ofNat_of_zero_le hp0
          have hb1 : q % len < len := Nat.mod_lt _ (by omega)
          have hb2 : (q * 7 + 3) % len < len := Nat.mod_lt _ (by omega)
          obtain ⟨z0, zc⟩ := hz _ hb1
          obtain ⟨y0, yc⟩ := hz _ hb2
          clear hz
          have hdv : q / len ≤ q := Nat.div_le_self _ _
          have e57 : ((q : Nat) : Int).tmod ((len : Nat) : Int) = ((q % len : Nat) : Int) := by rw [Int.tmod_eq_emod_of_nonneg (by omega)]; rfl
          have e68 : IntKind.i64.wrap (((q : Nat) : Int) * 7 + 3) = ((q * 7 + 3 : Nat) : Int) := by rw [IntWalk.i64_in _ (by omega)]; push_cast; rfl
          have e67 : IntKind.i64.wrap (((q : Nat) : Int) * 7) = ((q : Nat) : Int) * 7 := IntWalk.i64_in _ (by omega)
          have e74 : ((q * 7 + 3 : Nat) : Int).tmod ((len : Nat) : Int) = (((q * 7 + 3) % len : Nat) : Int) := by rw [Int.tmod_eq_emod_of_nonneg (by omega)]; rfl
          have hd0 : 0 ≤ ((q : Nat) : Int) / ((len : Nat) : Int) ∧ ((q : Nat) : Int) / ((len : Nat) : Int) ≤ q := by
            rw [← Int.natCast_ediv]; have := Int.natCast_nonneg (q / len); omega
          generalize q % len = i at *
          generalize (q * 7 + 3) % len = j at *
          generalize hdq : ((q : Nat) : Int) / ((len : Nat) : Int) = d at *
          have HD := Lib.hid hdq
          clear hdq
          generalize q * 7 + 3 = q3 at *
          generalize zs i = z at *
          generalize zs j = y at *
          have e61 : IntKind.i64.wrap (z * 131) = z * 131 := IntWalk.i64_in _ (by omega)
          have e78 : IntKind.i64.wrap (y * 1117) = y * 1117 := IntWalk.i64_in _ (by omega)
          have e79 : IntKind.i64.wrap (z * 131 + y * 1117) = z * 131 + y * 1117 := IntWalk.i64_in _ (by omega)
          have e81 : IntKind.i64.wrap (((q : Nat) : Int) * 29) = ((q : Nat) : Int) * 29 := IntWalk.i64_in _ (by omega)
          have e82 : IntKind.i64.wrap (z * 131 + y * 1117 + ((q : Nat) : Int) * 29) = z * 131 + y * 1117 + ((q : Nat) : Int) * 29 := IntWalk.i64_in _ (by omega)
          have i1 : ((i : Nat) : Int) < ((len : Nat) : Int) := by omega
          have j1 : ((j : Nat) : Int) < ((len : Nat) : Int) := by omega
          go_enter Try.func84, Try.ntmps84
          go_wp2
          go_quiet (fail)
          go_wp2
          go_ret
          have hx := xor_nonneg (z * 131 + y * 1117 + ↑q * 29 + d * 53) ((z * 131 + y * 1117 + ↑q * 29 + d * 53) / 64) (by omega) (by omega)
          refine ⟨_, rfl, fun hh => ?_, H.out.step _, Kept.of_setCell B 1 w _ _⟩
          rw [HD.out, IntWalk.wrap64_in d (by omega), IntWalk.wrap64_in (d * 53) (by omega), IntWalk.wrap64_in (z * 131 + y * 1117 + ↑q * 29 + d * 53) (by omega), Int.tdiv_eq_ediv_of_nonneg (by omega), IntWalk.wrap64_in _ (by omega)]
          exact ⟨Int.tmod_nonneg _ hx.1, Int.tmod_lt_of_pos _ (by omega)⟩

end Go.Proofs.Ytmjmafgjejphbaa
