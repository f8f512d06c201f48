/-
  Boxes of two cells beside a reader: what draws with structs need.
-/
import Derived.Test.YtmjmafgjejphbaaKinds
namespace Go.Proofs.Ytmjmafgjejphbaa
open Go.RowKit

/-- Block b holds two cells, is neither the reader nor its code, and may be written. -/
def Box (b B : Nat) (v u : Value) (W : World) : Prop := (b < W.heap.size ∧ b ≠ B ∧ B < W.heap.size ∧ Apart b B W) ∧ (W.cell? ⟨b, 0, none⟩ = some v ∧ W.cell? ⟨b, 1, none⟩ = some u) ∧ W.frozen? ⟨b, 0, none⟩ = false ∧ W.frozen? ⟨b, 1, none⟩ = false
theorem Box.keep {b B : Nat} {v u : Value} {W w1 : World} (h : Box b B v u W) (hk : Kept B W w1) : Box b B v u w1 := by
  obtain ⟨⟨a1, a2, a3, a4⟩, ⟨c0, c1⟩, f0, f1⟩ := h
  exact ⟨⟨Nat.lt_of_lt_of_le a1 hk.size, a2, Nat.lt_of_lt_of_le a3 hk.size, a4.keep a3 hk⟩, ⟨by rw [hk.cell a1 a2]; exact c0, by rw [hk.cell a1 a2]; exact c1⟩, by rw [hk.frozen a1 a2]; exact f0, by rw [hk.frozen a1 a2]; exact f1⟩
theorem Box.alloc {b B : Nat} {v u : Value} {W : World} (h : Box b B v u W) (o : Obj) : Box b B v u (W.alloc o) := h.keep ((Kept.refl B W).alloc o)
theorem Box.made {B : Nat} {p : Int} (v u : Value) {W : World} (T : TypeId) (hr : Rd W B p) : Box W.heap.size B v u (W.alloc (.cells #[v, u] T)) := by
  have hB := hr.1
  exact ⟨⟨by simp, by omega, by simp; omega, (hr.apart (b := W.heap.size) (by omega)).keep hB ((Kept.refl B W).alloc _)⟩, ⟨by rw [World.cell?_alloc_at (w := W) _ T _ _ rfl]; rfl, by rw [World.cell?_alloc_at (w := W) _ T _ _ rfl]; rfl⟩, by simp [go_sem], by simp [go_sem]⟩
/-- the world after both cells of a block were stored -/
def put2 (b : Nat) (v u : Value) (W : World) : World := (W.setCell ⟨b, 0, none⟩ v).setCell ⟨b, 1, none⟩ u
theorem put2_block {b c : Nat} (hc : c ≠ b) (v u : Value) (W : World) : (put2 b v u W).heap[c]? = W.heap[c]? :=
  (Below.heap_setCell (W.setCell ⟨b, 0, none⟩ v) ⟨b, 1, none⟩ u c (by show c ≠ b; exact hc)).trans (Below.heap_setCell W ⟨b, 0, none⟩ v c (by show c ≠ b; exact hc))
theorem Apart.put2 {b c B : Nat} {W : World} (h : Apart b B W) (hc : B ≠ c) (v u : Value) : Apart b B (put2 c v u W) := fun a len cap e => h a len cap (by rw [World.cell?_of_block (w := W) (put2_block hc v u W)] at e; exact e)
theorem Box.put {b B : Nat} {v u : Value} {W : World} (h : Box b B v u W) (v' u' : Value) : Box b B v' u' (put2 b v' u' W) := by
  obtain ⟨⟨a1, a2, a3, a4⟩, ⟨c0, c1⟩, f0, f1⟩ := h
  have e0 : (W.setCell ⟨b, 0, none⟩ v').cell? ⟨b, 0, none⟩ = some v' := World.cell?_setCell_same W _ _ c0
  have e1 : (W.setCell ⟨b, 0, none⟩ v').cell? ⟨b, 1, none⟩ = some u := by rw [World.cell?_setCell_other W _ _ _ (by simp)]; exact c1
  refine ⟨⟨by simpa [Go.Proofs.Ytmjmafgjejphbaa.put2] using a1, a2, by simpa [Go.Proofs.Ytmjmafgjejphbaa.put2] using a3, a4.put2 (Ne.symm a2) _ _⟩, ⟨?_, World.cell?_setCell_same _ _ _ e1⟩, by simpa [Go.Proofs.Ytmjmafgjejphbaa.put2] using f0, by simpa [Go.Proofs.Ytmjmafgjejphbaa.put2] using f1⟩
  unfold Go.Proofs.Ytmjmafgjejphbaa.put2
  rw [World.cell?_setCell_other _ _ _ _ (by simp)]; exact e0
theorem Box.other {b c B : Nat} {v u : Value} {W : World} (h : Box b B v u W) (hc : b ≠ c) (hB : c ≠ B) (v' u' : Value) : Box b B v u (put2 c v' u' W) := by
  obtain ⟨⟨a1, a2, a3, a4⟩, ⟨c0, c1⟩, f0, f1⟩ := h
  have hk := put2_block hc v' u' W
  exact ⟨⟨by simpa [Go.Proofs.Ytmjmafgjejphbaa.put2] using a1, a2, by simpa [Go.Proofs.Ytmjmafgjejphbaa.put2] using a3, a4.put2 (Ne.symm hB) _ _⟩, ⟨by rw [World.cell?_of_block (w := W) hk]; exact c0, by rw [World.cell?_of_block (w := W) hk]; exact c1⟩, by rw [World.frozen?_of_block (w := W) hk]; exact f0, by rw [World.frozen?_of_block (w := W) hk]; exact f1⟩
theorem Rd.put2 {W : World} {B : Nat} {p : Int} (h : Rd W B p) {b : Nat} {v0 u0 : Value} (hb : Box b B v0 u0 W) (v u : Value) : Rd (put2 b v u W) B p := by
  obtain ⟨⟨a1, a2, a3, a4⟩, -⟩ := hb
  refine (h.setOther b 0 a2 a4 v).setOther b 1 a2 ?_ u
  exact fun a len cap e => a4 a len cap (by rw [World.cell?_of_block (w := W) (Below.heap_setCell W ⟨b, 0, none⟩ v B (by show B ≠ b; exact Ne.symm a2))] at e; exact e)
theorem Kept.put2 {B : Nat} {a W : World} (h : Kept B a W) {b : Nat} (hb : a.heap.size ≤ b) (v u : Value) : Kept B a (put2 b v u W) := (h.setCell b 0 hb v).setCell b 1 hb u
theorem Kept.fresh {B : Nat} {a W : World} (h : Kept B a W) : a.heap.size ≤ W.heap.size := h.size

theorem kept_of_below {w w' : World} (h : Below w.heap.size w w') (B : Nat) : Kept B w w' := kept_blocks B h.os h.tape h.output h.size fun k hk => h.block k hk
theorem Rd.keepB {W w1 : World} {B : Nat} {p : Int} (h : Rd W B p) (hb : Below W.heap.size W w1) : Rd w1 B p := by
  obtain ⟨hB, hp, hf, hc, a, len, cap, zs, ⟨h1, h2, h3⟩, h4, h5⟩ := h
  refine ⟨Nat.lt_of_lt_of_le hB hb.size, hp, by rw [hb.frozen (p := ⟨B, 1, none⟩) hB]; exact hf, by rw [hb.cell (p := ⟨B, 1, none⟩) hB]; exact hc, a, len, cap, zs, ⟨h1, h2, ?_⟩, h4, by rw [hb.cell (p := ⟨B, 0, none⟩) hB]; exact h5⟩
  rcases h3 with h3 | ⟨b', off, e, hb', hz⟩
  · exact .inl h3
  · exact .inr ⟨b', off, e, hb', fun i hi => ⟨(hz i hi).1, by rw [hb.cell (p := ⟨b', off + i, none⟩) (by show b' < _; omega)]; exact (hz i hi).2⟩⟩
theorem Row8.mono {w : World} {C D : Nat} {a : Option Addr} {len cap : Nat} {zs : Nat → Int} (h : Row8 w C a len cap zs) (hD : C ≤ D) : Row8 w D a len cap zs := by
  obtain ⟨h1, h2, h3⟩ := h
  refine ⟨h1, h2, ?_⟩
  rcases h3 with h3 | ⟨b, off, e, hb, hz⟩
  · exact .inl h3
  · exact .inr ⟨b, off, e, Nat.lt_of_lt_of_le hb hD, hz⟩
theorem Row8.through {w w1 : World} {C : Nat} {a : Option Addr} {len cap : Nat} {zs : Nat → Int} (h : Row8 w C a len cap zs) (k : Below C w w1) : Row8 w1 C a len cap zs := by
  obtain ⟨h1, h2, h3⟩ := h
  refine ⟨h1, h2, ?_⟩
  rcases h3 with h3 | ⟨b, off, e, hb, hz⟩
  · exact .inl h3
  · exact .inr ⟨b, off, e, hb, fun i hi => ⟨(hz i hi).1, by rw [k.cell (p := ⟨b, off + i, none⟩) hb]; exact (hz i hi).2⟩⟩
theorem apart_fresh {w : World} {C b : Nat} {a : Option Addr} {len cap : Nat} {zs : Nat → Int} (T : TypeId) (h : Row8 w C a len cap zs) (hb : C ≤ b) : Apart b w.heap.size (w.alloc (.cells #[.slice a len cap, .int .i64 0] T)) := by
  intro a' len' cap' e
  rw [World.cell?_alloc_at (w := w) _ T _ _ rfl] at e
  simp only [List.getElem?_toArray, List.getElem?_cons_zero, Option.some.injEq, Value.slice.injEq] at e
  obtain ⟨rfl, rfl, rfl⟩ := e
  rcases h.2.2 with h3 | ⟨b', off, e, hb', -⟩
  · exact .inl h3
  · simp only [Option.some.injEq] at e
    subst e
    exact .inr (by show b' ≠ b; omega)
/-- A reader is opened: what lies above the code is apart from it. -/
def Opened (w : World) (C : Nat) (e : Ending) (w' : World) : Prop :=
  ∃ B, w.heap.size ≤ B ∧ e = .returned (.pointer (some ⟨B, 0, none⟩)) ∧ Rd w' B 0 ∧ Kept B w w' ∧ ∀ b, C ≤ b → Apart b B w'
theorem Box.opened {w w' : World} {b B : Nat} {v u : Value} {T : TypeId} (hB : (w.alloc (.cells #[v, u] T)).heap.size ≤ B) (hr : Rd w' B 0) (hk : Kept B (w.alloc (.cells #[v, u] T)) w') (ha : Apart w.heap.size B w') (hb : b = w.heap.size) : Box b B v u w' := by
  subst hb
  have hs : w.heap.size < (w.alloc (.cells #[v, u] T)).heap.size := by simp
  have hn : w.heap.size ≠ B := by omega
  refine ⟨⟨Nat.lt_of_lt_of_le hs hk.size, hn, hr.1, ha⟩, ⟨?_, ?_⟩, ?_, ?_⟩
  · rw [hk.cell hs hn, World.cell?_alloc_at (w := w) _ T _ _ rfl]; rfl
  · rw [hk.cell hs hn, World.cell?_alloc_at (w := w) _ T _ _ rfl]; rfl
  · rw [hk.frozen hs hn]; simp [go_sem]
  · rw [hk.frozen hs hn]; simp [go_sem]

set_option maxHeartbeats 1000000 in
theorem l20Open_at (a : Option Addr) (len cap : Nat) (zs : Nat → Int) (C : Nat) (w : World) (h : Row8 w C a len cap zs) (hC : C ≤ w.heap.size) :
    Calls Try.prog 73 #[.slice a len cap] w (Opened w C) := by
  have H := Lib.hid (h.mono hC)
  have HC := Lib.hid h
  obtain ⟨h1, h2, h3⟩ := h
  by_cases hl : 2000 < len
  · rcases h3 with h3 | ⟨b, off, rfl, hb, hz⟩
    · omega
    · have H2 := Lib.hid (show Row8 w C (some ⟨b, off, none⟩) 2000 cap zs from ⟨by omega, h2, .inr ⟨b, off, rfl, hb, fun i hi => hz i (by omega)⟩⟩)
      clear hz
      go_enter Try.func73, Try.ntmps73
      go_wp2
      go_ret
      exact ⟨_, Nat.le_refl _, rfl, Rd.fresh _ (H2.out.mono hC) (by omega), (Kept.refl _ w).alloc _, fun b hb => apart_fresh _ H2.out hb⟩
  · clear h3
    go_enter Try.func73, Try.ntmps73
    go_wp2
    go_ret
    exact ⟨_, Nat.le_refl _, rfl, Rd.fresh _ H.out (by omega), (Kept.refl _ w).alloc _, fun b hb => apart_fresh _ HC.out hb⟩

/-- A struct of two numbers has been drawn with the reader in block B. -/
def DrewPair (w : World) (B : Nat) (p C : Int) (e : Ending) (w' : World) : Prop :=
  ∃ x y : Int, e = .returned (.agg #[.int .i64 x, .int .i64 y]) ∧ (∃ q, q ≤ p + C ∧ Rd w' B q) ∧ Kept B w w'

/-- A row of structs of two numbers, written out. -/
def isPairs : List Value → Bool
  | [] => true
  | .int .i64 _ :: .int .i64 _ :: r => isPairs r
  | _ => false
theorem pairs_at : ∀ (l : List Value), isPairs l = true → ∀ i, 2 * i + 1 < l.length → ∃ x y : Int, l[2 * i]? = some (.int .i64 x) ∧ l[2 * i + 1]? = some (.int .i64 y)
  | [], _, i, hi => by simp at hi
  | [v], h, _, _ => by unfold isPairs at h; split at h <;> simp_all
  | v :: u :: r, h, i, hi => by
    unfold isPairs at h
    split at h
    · simp_all
    · rename_i a b r' e
      simp only [List.cons.injEq] at e
      obtain ⟨rfl, rfl, rfl⟩ := e
      cases i with
      | zero => exact ⟨a, b, rfl, rfl⟩
      | succ i =>
        obtain ⟨x, y, e1, e2⟩ := pairs_at _ h i (by simp at hi; omega)
        exact ⟨x, y, by rw [show 2 * (i + 1) = 2 * i + 1 + 1 from by omega]; simpa using e1, by rw [show 2 * (i + 1) + 1 = 2 * i + 1 + 1 + 1 from by omega]; simpa using e2⟩
    · cases h
theorem Kept.pairs {B : Nat} {w w' : World} {D : Array Value} {T : TypeId} (hk : Kept B (w.alloc (.cells D T)) w') (hB : B < w.heap.size)
    (hD : isPairs D.toList = true) (i : Nat) (h : 2 * i + 1 < D.toList.length) : ∃ x y : Int, w'.cell? ⟨w.heap.size, i * 2, none⟩ = some (.int .i64 x) ∧ w'.cell? ⟨w.heap.size, i * 2 + 1, none⟩ = some (.int .i64 y) := by
  rw [hk.last hB, hk.last hB, Nat.mul_comm i 2]
  have := pairs_at D.toList hD i h
  simpa using this

/-! ### Regions that draw their order, beside boxes of two numbers -/
/-- Each block of the list holds two numbers. -/
def Pairs (B : Nat) (PL : List Nat) (w : World) : Prop := ∀ b ∈ PL, ∃ x y : Int, Box b B (.int .i64 x) (.int .i64 y) w
theorem Pairs.keep {B : Nat} {PL : List Nat} {w w' : World} (h : Pairs B PL w) (hk : Kept B w w') : Pairs B PL w' := fun b hb => let ⟨x, y, hx⟩ := h b hb; ⟨x, y, hx.keep hk⟩
theorem Pairs.put {B : Nat} {PL : List Nat} {w : World} (h : Pairs B PL w) {b : Nat} (hb : b ∈ PL) (x y : Int) : Pairs B PL (put2 b (.int .i64 x) (.int .i64 y) w) := fun c hc => by
  obtain ⟨u, v, hx⟩ := h c hc
  obtain ⟨_, _, hb2⟩ := h b hb
  by_cases e : c = b
  · subst e; exact ⟨x, y, hx.put _ _⟩
  · exact ⟨u, v, hx.other e hb2.1.2.1 _ _⟩
theorem Pairs.none (B : Nat) (w : World) : Pairs B [] w := fun _ h => by cases h
theorem Pairs.cons {B b : Nat} {PL : List Nat} {w : World} {x y : Int} (h : Box b B (.int .i64 x) (.int .i64 y) w) (k : Pairs B PL w) : Pairs B (b :: PL) w := fun c hc => by
  rcases List.mem_cons.mp hc with rfl | hc
  · exact ⟨x, y, h⟩
  · exact k c hc
theorem Pairs.drewN {B : Nat} {PL : List Nat} {w : World} (h : Pairs B PL w) (n : Nat) : Pairs B PL (w.drewN n) := h.keep ((Kept.refl B w).drewN n)

/-- Y is kept by all that leaves the blocks outside S alone. -/
def StaysS (S : List Nat) (Y : World → Prop) : Prop := ∀ w w', Y w → KeptS S w w' → Y w'
theorem staysS_true (S : List Nat) : StaysS S (fun _ => True) := fun _ _ _ _ => trivial
theorem staysS_cell {S : List Nat} {b o : Nat} {v : Value} (hb : b ∉ S) : StaysS S (fun w => b < w.heap.size ∧ w.cell? ⟨b, o, none⟩ = some v) := fun _ _ h k => ⟨Nat.lt_of_lt_of_le h.1 k.size, by rw [k.cell h.1 hb]; exact h.2⟩

/-- The reader while a region's operations come up: it may have gone on by c for each. -/
structure ReadsP (S : List Nat) (w0 : World) (B : Nat) (p c : Int) (PL : List Nat) (Y : World → Prop) (k : Nat) (w : World) : Prop where
  reader : ∃ q, q ≤ p + c * k ∧ Rd w B q
  kept : KeptS S w0 w
  old : ∀ s ∈ S, s < w.heap.size
  pairs : Pairs B PL w
  more : Y w
  head : w.cell? ⟨B, 0, none⟩ = w0.cell? ⟨B, 0, none⟩
section
variable {S : List Nat} {w0 w w' : World} {B : Nat} {p c : Int} {PL : List Nat} {Y : World → Prop} {k : Nat}
theorem mul_next (c : Int) (hc : 0 ≤ c) (k : Nat) : c * k ≤ c * ((k + 1 : Nat) : Int) := by
  rw [Int.natCast_succ, Int.mul_add]; omega
theorem ReadsP.next (hc : 0 ≤ c) (h : ReadsP S w0 B p c PL Y k w) : ReadsP S w0 B p c PL Y (k + 1) w := by
  obtain ⟨⟨q, hq, hr⟩, hk, ho, hx, hy, he⟩ := h
  exact ⟨⟨q, by have := mul_next c hc k; omega, hr⟩, hk, ho, hx, hy, he⟩
theorem ReadsP.alloc (hc : 0 ≤ c) (h : ReadsP S w0 B p c PL Y k w) (hY : StaysS S Y) (o : Obj) : ReadsP S w0 B p c PL Y (k + 1) (w.alloc o) := by
  obtain ⟨⟨q, hq, hr⟩, hk, ho, hx, hy, he⟩ := h
  exact ⟨⟨q, by have := mul_next c hc k; omega, hr.alloc o⟩, hk.alloc o, fun s hs => by have := ho s hs; simp; omega, hx.keep ((Kept.refl _ _).alloc o), hY _ _ hy ((KeptS.refl _ _).alloc o), (((Kept.refl B w).alloc o).head hr.1).trans he⟩
theorem ReadsP.gone {q' : Int} (h : ReadsP S w0 B p c PL Y k w) (hY : StaysS S Y) (hB : B ∈ S) (hq : q' ≤ p + c * k + c) (hr : Rd w' B q') (hk : Kept B w w') : ReadsP S w0 B p c PL Y (k + 1) w' :=
  ⟨⟨q', by rw [Int.natCast_succ, Int.mul_add]; omega, hr⟩, h.kept.trans (hk.toS hB), fun s hs => Nat.lt_of_lt_of_le (h.old s hs) hk.size, h.pairs.keep hk, hY _ _ h.more (hk.toS hB), (hk.head (by obtain ⟨_, _, hr0⟩ := h.reader; exact hr0.1)).trans h.head⟩
theorem keptS_put2 {b : Nat} (hS : b ∈ S) (v u : Value) : KeptS S w (put2 b v u w) := ((KeptS.refl S w).setCell 0 hS v).setCell 1 hS u
theorem ReadsP.put (hc : 0 ≤ c) (h : ReadsP S w0 B p c PL Y k w) (hY : StaysS S Y) {b : Nat} (hb : b ∈ PL) (hS : b ∈ S) (x y : Int) : ReadsP S w0 B p c PL Y (k + 1) (put2 b (.int .i64 x) (.int .i64 y) w) := by
  obtain ⟨u, v, hbx⟩ := h.pairs b hb
  obtain ⟨⟨q, hq, hr⟩, hk, ho, hx, hy, he⟩ := h
  exact ⟨⟨q, by have := mul_next c hc k; omega, hr.put2 hbx _ _⟩, hk.trans (keptS_put2 hS _ _), fun s hs => by simpa [put2] using ho s hs, hx.put hb x y, hY _ _ hy (keptS_put2 hS _ _), (World.cell?_of_block (w := w) (put2_block (Ne.symm hbx.1.2.1) _ _ w)).trans he⟩
theorem ReadsP.fresh (h : ReadsP S w0 B p c PL Y k w) : w.heap.size ∉ S := fun hm => by have := h.old _ hm; omega
theorem ReadsP.toKept (hR : ReadsP S w0 B p c PL Y k w) {a : World} (hk : Kept B a w0) (hS : ∀ s ∈ S, s = B ∨ a.heap.size ≤ s) : Kept B a w :=
  have h := hR.kept
  ⟨h.os.trans hk.os, h.tape.trans hk.tape, h.output.trans hk.output, Nat.le_trans hk.size h.size, fun k hl hn => (h.block k (Nat.lt_of_lt_of_le hl hk.size) (fun hm => by rcases hS k hm with e | e; exact hn e; omega)).trans (hk.block k hl hn), fun hB => hR.head.trans (hk.head hB)⟩
end

end Go.Proofs.Ytmjmafgjejphbaa
