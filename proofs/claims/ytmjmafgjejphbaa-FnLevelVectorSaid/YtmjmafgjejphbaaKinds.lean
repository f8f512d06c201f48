/-
  Kinds of values that a draw's region yields, and that they are kept while the region goes on: blocks of the list S alone may change.
-/
import Derived.Test.YtmjmafgjejphbaaDraw
import Derived.Test.YtmjmafgjejphbaaRegion
namespace Go.Proofs.Ytmjmafgjejphbaa
open Go.RowKit

/-- Of what was there all but the blocks of S is as it was. -/
structure KeptS (S : List Nat) (w w' : World) : Prop where
  os : w'.os = w.os
  tape : w'.tape = w.tape
  output : w'.output = w.output
  size : w.heap.size ≤ w'.heap.size
  block : ∀ k, k < w.heap.size → k ∉ S → w'.heap[k]? = w.heap[k]?

theorem KeptS.refl (S : List Nat) (w : World) : KeptS S w w := ⟨rfl, rfl, rfl, Nat.le_refl _, fun _ _ _ => rfl⟩
theorem KeptS.trans {S : List Nat} {a b c : World} (h : KeptS S a b) (k : KeptS S b c) : KeptS S a c :=
  ⟨k.os.trans h.os, k.tape.trans h.tape, k.output.trans h.output, Nat.le_trans h.size k.size, fun i hi hB => (k.block i (Nat.lt_of_lt_of_le hi h.size) hB).trans (h.block i hi hB)⟩
theorem KeptS.cell {S : List Nat} {w w' : World} (h : KeptS S w w') {b o : Nat} (hb : b < w.heap.size) (hB : b ∉ S) : w'.cell? ⟨b, o, none⟩ = w.cell? ⟨b, o, none⟩ := World.cell?_of_block (w := w) (h.block b hb hB)
theorem KeptS.frozen {S : List Nat} {w w' : World} (h : KeptS S w w') {b o : Nat} (hb : b < w.heap.size) (hB : b ∉ S) : w'.frozen? ⟨b, o, none⟩ = w.frozen? ⟨b, o, none⟩ := World.frozen?_of_block (w := w) (h.block b hb hB)
theorem KeptS.below {S : List Nat} {C : Nat} {w w' : World} (h : KeptS S w w') (hC : ∀ s ∈ S, C ≤ s) (hs : C ≤ w.heap.size) : Below C w w' :=
  ⟨h.os, h.tape, h.output, h.size, fun k hk => h.block k (by omega) (fun hm => by have := hC k hm; omega)⟩
theorem KeptS.alloc {S : List Nat} {a w : World} (h : KeptS S a w) (o : Obj) : KeptS S a (w.alloc o) :=
  h.trans ⟨rfl, rfl, rfl, by simp, fun k hk _ => Below.heap_alloc w o k hk⟩
theorem KeptS.drewN {S : List Nat} {a w : World} (h : KeptS S a w) (n : Nat) : KeptS S a (w.drewN n) := h.trans ⟨rfl, rfl, rfl, Nat.le_refl _, fun _ _ _ => rfl⟩
theorem Kept.toS {S : List Nat} {B : Nat} {w w' : World} (h : Kept B w w') (hB : B ∈ S) : KeptS S w w' :=
  ⟨h.os, h.tape, h.output, h.size, fun k hk hn => h.block k hk (fun e => hn (e ▸ hB))⟩
theorem KeptS.setCell {S : List Nat} {a w : World} (h : KeptS S a w) {b : Nat} (o : Nat) (hb : b ∈ S) (v : Value) : KeptS S a (w.setCell ⟨b, o, none⟩ v) :=
  h.trans ⟨rfl, rfl, rfl, by simp, fun k _ hn => Below.heap_setCell w ⟨b, o, none⟩ v k (fun e => hn (e ▸ hb))⟩

def IsNum (v : Value) : Prop := ∃ x : Int, v = .int .i64 x
def NumIn (lo hi : Int) (v : Value) : Prop := ∃ x : Int, v = .int .i64 x ∧ lo ≤ x ∧ x ≤ hi
def IsBool (v : Value) : Prop := ∃ x : Bool, v = .bool x
def IsRd (B : Nat) (v : Value) : Prop := v = .pointer (some ⟨B, 0, none⟩)
def IsPair (v : Value) : Prop := ∃ x y : Int, v = .agg #[.int .i64 x, .int .i64 y]
/-- A slice of n numbers in lo..hi, in a block of its own. -/
def RowIn (S : List Nat) (n : Nat) (lo hi : Int) (v : Value) (w : World) : Prop :=
  ∃ b, v = .slice (some ⟨b, 0, none⟩) n n ∧ b ∉ S ∧ b < w.heap.size ∧ ∀ i, i < n → ∃ x : Int, w.cell? ⟨b, i, none⟩ = some (.int .i64 x) ∧ lo ≤ x ∧ x ≤ hi
def RowNum (S : List Nat) (n : Nat) (v : Value) (w : World) : Prop :=
  ∃ b, v = .slice (some ⟨b, 0, none⟩) n n ∧ b ∉ S ∧ b < w.heap.size ∧ ∀ i, i < n → ∃ x : Int, w.cell? ⟨b, i, none⟩ = some (.int .i64 x)
def AtIn (S : List Nat) (lo hi : Int) (v : Value) (w : World) : Prop :=
  ∃ b i, v = .pointer (some ⟨b, i, none⟩) ∧ b ∉ S ∧ b < w.heap.size ∧ ∃ x : Int, w.cell? ⟨b, i, none⟩ = some (.int .i64 x) ∧ lo ≤ x ∧ x ≤ hi
def AtNum (S : List Nat) (v : Value) (w : World) : Prop :=
  ∃ b i, v = .pointer (some ⟨b, i, none⟩) ∧ b ∉ S ∧ b < w.heap.size ∧ ∃ x : Int, w.cell? ⟨b, i, none⟩ = some (.int .i64 x)

theorem RowIn.keep {S : List Nat} {n : Nat} {lo hi : Int} {v : Value} {w w' : World} (h : RowIn S n lo hi v w) (k : KeptS S w w') : RowIn S n lo hi v w' := by
  obtain ⟨b, e, hb, hs, hc⟩ := h
  exact ⟨b, e, hb, Nat.lt_of_lt_of_le hs k.size, fun i hi => by rw [k.cell hs hb]; exact hc i hi⟩
theorem RowNum.keep {S : List Nat} {n : Nat} {v : Value} {w w' : World} (h : RowNum S n v w) (k : KeptS S w w') : RowNum S n v w' := by
  obtain ⟨b, e, hb, hs, hc⟩ := h
  exact ⟨b, e, hb, Nat.lt_of_lt_of_le hs k.size, fun i hi => by rw [k.cell hs hb]; exact hc i hi⟩
theorem AtIn.keep {S : List Nat} {lo hi : Int} {v : Value} {w w' : World} (h : AtIn S lo hi v w) (k : KeptS S w w') : AtIn S lo hi v w' := by
  obtain ⟨b, i, e, hb, hs, hc⟩ := h
  exact ⟨b, i, e, hb, Nat.lt_of_lt_of_le hs k.size, by rw [k.cell hs hb]; exact hc⟩
theorem AtNum.keep {S : List Nat} {v : Value} {w w' : World} (h : AtNum S v w) (k : KeptS S w w') : AtNum S v w' := by
  obtain ⟨b, i, e, hb, hs, hc⟩ := h
  exact ⟨b, i, e, hb, Nat.lt_of_lt_of_le hs k.size, by rw [k.cell hs hb]; exact hc⟩
theorem row_in {S : List Nat} {n : Nat} {lo hi : Int} {b : Nat} {w : World} (hb : b ∉ S) (hs : b < w.heap.size) (hc : ∀ i, i < n → ∃ x : Int, w.cell? ⟨b, i, none⟩ = some (.int .i64 x) ∧ lo ≤ x ∧ x ≤ hi) {x : Int} (h1 : 0 ≤ x ∧ x < n) :
    AtIn S lo hi (.pointer (some ⟨b, x.toNat, none⟩)) w := ⟨b, x.toNat, rfl, hb, hs, hc _ (by omega)⟩
theorem row_num {S : List Nat} {n : Nat} {b : Nat} {w : World} (hb : b ∉ S) (hs : b < w.heap.size) (hc : ∀ i, i < n → ∃ x : Int, w.cell? ⟨b, i, none⟩ = some (.int .i64 x)) {x : Int} (h1 : 0 ≤ x ∧ x < n) :
    AtNum S (.pointer (some ⟨b, x.toNat, none⟩)) w := ⟨b, x.toNat, rfl, hb, hs, hc _ (by omega)⟩
theorem RowIn.made {S : List Nat} {w : World} (hB : w.heap.size ∉ S) (C : Array Value) (T : TypeId) (n : Nat) (lo hi : Int) (hn : n = C.toList.length) (hC : C.toList.all (isIn lo hi) = true) :
    RowIn S n lo hi (.slice (some ⟨w.heap.size, 0, none⟩) n n) (w.alloc (.cells C T)) := by
  subst hn
  refine ⟨w.heap.size, rfl, hB, by simp, fun i hi => ?_⟩
  obtain ⟨u, hu, e⟩ := tab_at lo _ C hC i hi
  exact ⟨u, by rw [World.cell?_alloc_at (w := w) _ T _ _ rfl]; exact e, hu.1, hu.2⟩
theorem RowNum.made {S : List Nat} {w : World} (hB : w.heap.size ∉ S) (C : Array Value) (T : TypeId) (n : Nat) (hn : n = C.toList.length) (hC : C.toList.all isNum = true) :
    RowNum S n (.slice (some ⟨w.heap.size, 0, none⟩) n n) (w.alloc (.cells C T)) := by
  subst hn
  refine ⟨w.heap.size, rfl, hB, by simp, fun i hi => ?_⟩
  obtain ⟨u, e⟩ := row_at C hC i hi
  exact ⟨u, by rw [World.cell?_alloc_at (w := w) _ T _ _ rfl]; exact e⟩

def notDst (ops : Array Oper) (t : Tmp) : Bool := (List.range ops.size).all fun j => (ops[j]?).bind (·.dst) != some t
theorem not_dst {ops : Array Oper} {t : Tmp} (h : notDst ops t = true) (j : Nat) : (ops[j]?).bind (·.dst) ≠ some t := by
  by_cases hj : j < ops.size
  · unfold notDst at h
    rw [List.all_eq_true] at h
    simpa using h j (List.mem_range.2 hj)
  · rw [Array.getElem?_eq_none (by omega)]; simp
theorem getD_form {xs : Array Value} {i : Nat} {v : Value} (h : xs.getD i undef = v) : xs[i]?.getD undef = v := by rw [← Array.getD_eq_getD_getElem?]; exact h
/-- An operation without a guard. -/
theorem wpOp_at {P : Program} {ops : Array Oper} {Q : Exit → Act → World → Prop} {i : Nat} {K : Act → World → Prop} {a : Act} {w : World} (o : Oper) (hi : ops[i]? = some o) (hg : o.guard = none) (h : o.wp P a w K Q) : wpOp P ops Q i K a w := by
  unfold wpOp
  rw [hi]
  have : Region.wanted o (yielded ops a.tmps) = true := by unfold Region.wanted; rw [hg]
  simp only [this, if_true]
  exact .inl h

/-- The reader while a region's operations come up: it may have gone on by ten for each. 'X': what else holds of the world. -/
structure Reads (S : List Nat) (w0 : World) (B : Nat) (p : Int) (X : World → Prop) (k : Nat) (w : World) : Prop where
  reader : ∃ q, q ≤ p + 10 * k ∧ Rd w B q
  kept : KeptS S w0 w
  old : ∀ s ∈ S, s < w.heap.size
  more : X w
/-- X is kept by picks and by new blocks. -/
def Stays (B : Nat) (X : World → Prop) : Prop := ∀ w w', X w → Kept B w w' → X w'
theorem stays_true (B : Nat) : Stays B (fun _ => True) := fun _ _ _ _ => trivial
theorem Reads.next {S : List Nat} {w0 w : World} {B : Nat} {p : Int} {X : World → Prop} {k : Nat} (h : Reads S w0 B p X k w) : Reads S w0 B p X (k + 1) w := by
  obtain ⟨⟨q, hq, hr⟩, hk, ho, hx⟩ := h
  exact ⟨⟨q, by omega, hr⟩, hk, ho, hx⟩
theorem Reads.alloc {S : List Nat} {w0 w : World} {B : Nat} {p : Int} {X : World → Prop} {k : Nat} (h : Reads S w0 B p X k w) (hX : Stays B X) (o : Obj) : Reads S w0 B p X (k + 1) (w.alloc o) := by
  obtain ⟨⟨q, hq, hr⟩, hk, ho, hx⟩ := h
  exact ⟨⟨q, by omega, hr.alloc o⟩, hk.alloc o, fun s hs => by have := ho s hs; simp; omega, hX _ _ hx ((Kept.refl _ _).alloc o)⟩
theorem Reads.gone {S : List Nat} {w0 w w' : World} {B : Nat} {p q' : Int} {X : World → Prop} {k : Nat} (h : Reads S w0 B p X k w) (hX : Stays B X) (hB : B ∈ S) (hq : q' ≤ p + 10 * (k + 1)) (hr : Rd w' B q') (hk : Kept B w w') : Reads S w0 B p X (k + 1) w' :=
  ⟨⟨q', by push_cast; omega, hr⟩, h.kept.trans (hk.toS hB), fun s hs => Nat.lt_of_lt_of_le (h.old s hs) hk.size, hX _ _ h.more hk⟩
theorem Reads.fresh {S : List Nat} {w0 w : World} {B : Nat} {p : Int} {X : World → Prop} {k : Nat} (h : Reads S w0 B p X k w) : w.heap.size ∉ S := fun hm => by have := h.old _ hm; omega

end Go.Proofs.Ytmjmafgjejphbaa
