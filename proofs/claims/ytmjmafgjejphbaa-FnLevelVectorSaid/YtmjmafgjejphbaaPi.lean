/-
  The walks of the circle number.
-/
import Derived.Test.YtmjmafgjejphbaaArc
namespace Go.Proofs.Ytmjmafgjejphbaa
open Go.RowKit

theorem pi_parts : Fx.arcSpan 5 = (52987965, 52987972) ∧ Fx.arcSpan 239 = (1123152, 1123156) ∧ Fx.spanTimes 52987965 52987972 16 = (847807440, 847807552, true) ∧ Fx.spanTimes 1123152 1123156 (-4) = (-4492624, -4492608, true) ∧
    Fx.spanAdd 847807440 847807552 (-4492624) (-4492608) = (843314816, 843314944, true) := by decide +kernel

set_option maxHeartbeats 2000000 in
theorem piSpan_any (w : World) :
    Calls Try.prog 34 #[] w fun e w' => e = .returned (.agg #[.int .i64 Fx.piSpan.1, .int .i64 Fx.piSpan.2]) ∧ Below w.heap.size w w' := by
  have hx := bx_one w 0 0 31
  rw [Fx.pi_is]
  obtain ⟨e1, e2, e3, e4, e5⟩ := pi_parts
  have A := fun w => arcSpan_any 5 w
  have B := fun w => arcSpan_any 239 w
  have C := fun w => spanTimes_any 52987965 52987972 16 w
  have D := fun w => spanTimes_any 1123152 1123156 (-4) w
  have E := fun w => spanAdd_any 847807440 847807552 (-4492624) (-4492608) w
  rw [e1] at A
  rw [e2] at B
  rw [e3] at C
  rw [e4] at D
  rw [e5] at E
  clear e1 e2 e3 e4 e5
  (have hf := hx.2.2; simp only [List.forall_mem_cons, List.not_mem_nil, false_imp_iff, implies_true, and_true, Bx1] at hf; first | have hd := bx_apart4 hx | have hd := bx_apart3 hx | have hd := bx_apart2 hx | have hd := trivial)
  go_enter Try.func34, Try.ntmps34
  go_wp2_with (first | (go_at_call 37; (with_reducible refine (A _).mono ?_); rintro e w1 ⟨rfl, hb⟩; replace hx := Bx.below hx hb; clear hb; (try clear hf hd); (have hf := hx.2.2; simp only [List.forall_mem_cons, List.not_mem_nil, false_imp_iff, implies_true, and_true, Bx1] at hf; first | have hd := bx_apart4 hx | have hd := bx_apart3 hx | have hd := bx_apart2 hx | have hd := trivial)) | (go_at_call 37; (with_reducible refine (B _).mono ?_); rintro e w1 ⟨rfl, hb⟩; replace hx := Bx.below hx hb; clear hb; (try clear hf hd); (have hf := hx.2.2; simp only [List.forall_mem_cons, List.not_mem_nil, false_imp_iff, implies_true, and_true, Bx1] at hf; first | have hd := bx_apart4 hx | have hd := bx_apart3 hx | have hd := bx_apart2 hx | have hd := trivial)) | (go_at_call 44; (with_reducible refine (C _).mono ?_); rintro e w2 ⟨rfl, hb⟩; replace hx := (Bx.below hx hb).box (847807440) (847807552) 31; clear hb; (try clear hf hd); (have hf := hx.2.2; simp only [List.forall_mem_cons, List.not_mem_nil, false_imp_iff, implies_true, and_true, Bx1] at hf; first | have hd := bx_apart4 hx | have hd := bx_apart3 hx | have hd := bx_apart2 hx | have hd := trivial)) | (go_at_call 44; (with_reducible refine (D _).mono ?_); rintro e w3 ⟨rfl, hb⟩; replace hx := (Bx.below hx hb).box (-4492624) (-4492608) 31; clear hb; (try clear hf hd); (have hf := hx.2.2; simp only [List.forall_mem_cons, List.not_mem_nil, false_imp_iff, implies_true, and_true, Bx1] at hf; first | have hd := bx_apart4 hx | have hd := bx_apart3 hx | have hd := bx_apart2 hx | have hd := trivial)) | (go_at_call 43; (with_reducible refine (E _).mono ?_); rintro e w4 ⟨rfl, hb⟩; replace hx := (Bx.below hx hb).box (843314816) (843314944) 31; clear hb; (try clear hf hd); (have hf := hx.2.2; simp only [List.forall_mem_cons, List.not_mem_nil, false_imp_iff, implies_true, and_true, Bx1] at hf; first | have hd := bx_apart4 hx | have hd := bx_apart3 hx | have hd := bx_apart2 hx | have hd := trivial)))
  (have h9 := hx.set3 (843314816) (843314944); (try simp only [Exit.inBlock, Exit.then]); exact bodyPost_ret (v := .agg #[.int .i64 843314816, .int .i64 843314944]) (by first | (simp [results, Try.results34, go_sem]; done) | (have e9 := h9.get3; simp [results, Try.results34, go_sem, e9.1, e9.2])) rfl ⟨rfl, (by first | exact h9.1 | go_grown)⟩)

set_option maxHeartbeats 2000000 in
theorem s_piSpan_any (w : World) :
    Calls Try.prog 33 #[] w fun e w' => e = .returned (.agg #[.int .i64 Fx.piSpan.1, .int .i64 Fx.piSpan.2]) ∧ Below w.heap.size w w' := by
  have hx := bx_one w 0 0 31
  rw [Fx.pi_is]
  obtain ⟨e1, e2, -, -, -⟩ := pi_parts
  have A := fun w => s_arcSpan_any 5 w
  have B := fun w => s_arcSpan_any 239 w
  rw [e1] at A
  rw [e2] at B
  clear e1 e2
  (have hf := hx.2.2; simp only [List.forall_mem_cons, List.not_mem_nil, false_imp_iff, implies_true, and_true, Bx1] at hf; first | have hd := bx_apart4 hx | have hd := bx_apart3 hx | have hd := bx_apart2 hx | have hd := trivial)
  go_enter Try.func33, Try.ntmps33
  go_wp2_with (first | (go_at_call 38; (with_reducible refine (A _).mono ?_); rintro e w2 ⟨rfl, hb⟩; replace hx := (Bx.below hx hb).box (52987965) (52987972) 31; clear hb; (try clear hf hd); (have hf := hx.2.2; simp only [List.forall_mem_cons, List.not_mem_nil, false_imp_iff, implies_true, and_true, Bx1] at hf; first | have hd := bx_apart4 hx | have hd := bx_apart3 hx | have hd := bx_apart2 hx | have hd := trivial)) | (go_at_call 38; (with_reducible refine (B _).mono ?_); rintro e w3 ⟨rfl, hb⟩; replace hx := (Bx.below hx hb).box (1123152) (1123156) 31; clear hb; (try clear hf hd); (have hf := hx.2.2; simp only [List.forall_mem_cons, List.not_mem_nil, false_imp_iff, implies_true, and_true, Bx1] at hf; first | have hd := bx_apart4 hx | have hd := bx_apart3 hx | have hd := bx_apart2 hx | have hd := trivial)))
  (have h9 := hx.set2 (843314816) (843314944); (try simp only [Exit.inBlock, Exit.then]); exact bodyPost_ret (v := .agg #[.int .i64 843314816, .int .i64 843314944]) (by first | (simp [results, Try.results33, go_sem]; done) | (have e9 := h9.get2; simp [results, Try.results33, go_sem, e9.1, e9.2])) rfl ⟨rfl, (by first | exact h9.1 | go_grown)⟩)

end Go.Proofs.Ytmjmafgjejphbaa
