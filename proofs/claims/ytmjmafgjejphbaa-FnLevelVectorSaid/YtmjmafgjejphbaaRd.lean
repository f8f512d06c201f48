/-
  The draws read their code byte by byte: 'l20Open' makes a reader, 'pick' gives a number below n, whatever the code is.
-/
import Derived.Test.YtmjmafgjejphbaaBase
import Derived.ProofKit
import Derived.OpenShut
namespace Go.Proofs.Ytmjmafgjejphbaa
open Go.RowKit

/-- A slice of bytes that can be read below block B. -/
def Row8 (w : World) (B : Nat) (a : Option Addr) (len cap : Nat) (zs : Nat → Int) : Prop :=
  len ≤ cap ∧ cap ≤ 9223372036854775807 ∧ (len = 0 ∨ ∃ b off, a = some ⟨b, off, none⟩ ∧ b < B ∧ ∀ i, i < len → (0 ≤ zs i ∧ zs i ≤ 255) ∧ w.cell? ⟨b, off + i, none⟩ = some (.int .u8 (zs i)))

theorem Row8.nil (w : World) (B : Nat) : Row8 w B none 0 0 (fun _ => 0) := ⟨by omega, by omega, .inl rfl⟩
theorem Row8.of_ints {w : World} {x : Addr} {len cap : Nat} {zs : List Int} (hl : len ≤ cap) (hm : cap ≤ maxLen) (hz : zs.length = cap)
    (hc : ∀ i, i < zs.length → w.cell? (x.add i) = some (.int .u8 (zs.getD i 0))) (hw : ∀ n ∈ zs, (Lit.int .u8 n).wf = true) :
    Row8 w w.heap.size (some x) len cap (fun i => zs.getD i 0) := by
  unfold maxLen at hm
  refine ⟨hl, hm, ?_⟩
  by_cases h0 : len = 0
  · exact .inl h0
  · obtain ⟨b, off, spot⟩ := x
    have c0 := hc 0 (by omega)
    have hs : spot = none := by simpa [Addr.add] using World.cell?_spot c0
    subst hs
    have hb : b < w.heap.size := by
      apply Nat.lt_of_not_le; intro hge
      have : w.heap[b]? = none := Array.getElem?_eq_none hge
      simp [World.cell?, Addr.add, this] at c0
    refine .inr ⟨b, off, rfl, hb, fun i hi => ⟨?_, by have := hc i (by omega); by_cases h1 : i = 0 <;> simpa [Addr.add, h1] using this⟩⟩
    have hi' : i < zs.length := by omega
    have hg : zs.getD i 0 = zs[i] := by simp [List.getD_eq_getElem?_getD, List.getElem?_eq_getElem hi']
    have := hw _ (List.getElem_mem hi')
    have hb := bounds_u8 this
    show 0 ≤ zs.getD i 0 ∧ zs.getD i 0 ≤ 255
    rw [hg]; omega

/-- A reader lies in block B, at place p of its code. -/
def Rd (w : World) (B : Nat) (p : Int) : Prop :=
  B < w.heap.size ∧ 0 ≤ p ∧ w.frozen? ⟨B, 1, none⟩ = false ∧ w.cell? ⟨B, 1, none⟩ = some (.int .i64 p) ∧
    ∃ a len cap zs, Row8 w B a len cap zs ∧ len ≤ 2000 ∧ w.cell? ⟨B, 0, none⟩ = some (.slice a len cap)

/-- Of what was there all but block B is as it was; of block B the first cell is. -/
structure Kept (B : Nat) (w w' : World) : Prop where
  os : w'.os = w.os
  tape : w'.tape = w.tape
  output : w'.output = w.output
  size : w.heap.size ≤ w'.heap.size
  block : ∀ k, k < w.heap.size → k ≠ B → w'.heap[k]? = w.heap[k]?
  head : B < w.heap.size → w'.cell? ⟨B, 0, none⟩ = w.cell? ⟨B, 0, none⟩

theorem Kept.refl (B : Nat) (w : World) : Kept B w w := ⟨rfl, rfl, rfl, Nat.le_refl _, fun _ _ _ => rfl, fun _ => rfl⟩
theorem Kept.trans {B : Nat} {a b c : World} (h : Kept B a b) (k : Kept B b c) : Kept B a c :=
  ⟨k.os.trans h.os, k.tape.trans h.tape, k.output.trans h.output, Nat.le_trans h.size k.size, fun i hi hB => (k.block i (Nat.lt_of_lt_of_le hi h.size) hB).trans (h.block i hi hB), fun hB => (k.head (Nat.lt_of_lt_of_le hB h.size)).trans (h.head hB)⟩
theorem Kept.cell {B : Nat} {w w' : World} (h : Kept B w w') {b o : Nat} (hb : b < w.heap.size) (hB : b ≠ B) : w'.cell? ⟨b, o, none⟩ = w.cell? ⟨b, o, none⟩ := World.cell?_of_block (w := w) (h.block b hb hB)
theorem Kept.frozen {B : Nat} {w w' : World} (h : Kept B w w') {b o : Nat} (hb : b < w.heap.size) (hB : b ≠ B) : w'.frozen? ⟨b, o, none⟩ = w.frozen? ⟨b, o, none⟩ := World.frozen?_of_block (w := w) (h.block b hb hB)
theorem Kept.below {B C : Nat} {w w' : World} (h : Kept B w w') (hC : C ≤ B) (hs : C ≤ w.heap.size) : Below C w w' :=
  ⟨h.os, h.tape, h.output, h.size, fun k hk => h.block k (by omega) (by omega)⟩
theorem kept_blocks {w w' : World} (B : Nat) (h1 : w'.os = w.os) (h2 : w'.tape = w.tape) (h3 : w'.output = w.output) (h4 : w.heap.size ≤ w'.heap.size) (h5 : ∀ k, k < w.heap.size → w'.heap[k]? = w.heap[k]?) : Kept B w w' :=
  ⟨h1, h2, h3, h4, fun k hk _ => h5 k hk, fun hB => World.cell?_of_block (w := w) (h5 B hB)⟩
theorem Kept.alloc {B : Nat} {a w : World} (h : Kept B a w) (o : Obj) : Kept B a (w.alloc o) :=
  h.trans (kept_blocks B rfl rfl rfl (by simp) fun k hk => Below.heap_alloc w o k hk)
theorem Kept.drewN {B : Nat} {a w : World} (h : Kept B a w) (n : Nat) : Kept B a (w.drewN n) := h.trans (kept_blocks B rfl rfl rfl (Nat.le_refl _) fun _ _ => rfl)
theorem Kept.of_setCell (B o : Nat) (w : World) (v : Value) (n : Nat) (ho : o ≠ 0 := by decide) : Kept B w ((w.setCell ⟨B, o, none⟩ v).drewN n) :=
  ⟨rfl, rfl, rfl, by simp, fun k _ hB => Below.heap_setCell w ⟨B, o, none⟩ v k hB, fun _ => by
    show (w.setCell _ _).cell? _ = _
    rw [World.cell?_setCell_other w _ _ _ (by simp only [ne_eq, Addr.mk.injEq, true_and, and_true]; exact ho)]⟩
/-- A store into another block that is new since 'a'. -/
theorem Kept.setCell {B : Nat} {a w : World} (h : Kept B a w) (b o : Nat) (hb : a.heap.size ≤ b) (v : Value) : Kept B a (w.setCell ⟨b, o, none⟩ v) :=
  ⟨h.os, h.tape, h.output, by simpa using h.size, fun k hk hB => (Below.heap_setCell w ⟨b, o, none⟩ v k (by show k ≠ b; omega)).trans (h.block k hk hB), fun hB => (World.cell?_of_block (w := w) (Below.heap_setCell w ⟨b, o, none⟩ v B (by show B ≠ b; omega))).trans (h.head hB)⟩

/-- What a pick gives: a number below n (if n is at least 1); the reader goes one on. -/
def Picked (w : World) (B : Nat) (p n : Int) (e : Ending) (w' : World) : Prop :=
  ∃ x : Int, e = .returned (.int .i64 x) ∧ (1 ≤ n → 0 ≤ x ∧ x < n) ∧ Rd w' B (p + 1) ∧ Kept B w w'

theorem Rd.step {w : World} {B : Nat} {p : Int} (h : Rd w B p) (n : Nat) : Rd ((w.setCell ⟨B, 1, none⟩ (.int .i64 (p + 1))).drewN n) B (p + 1) := by
  obtain ⟨hB, hp, hf, hc, a, len, cap, zs, ⟨h1, h2, h3⟩, h4, h5⟩ := h
  refine ⟨by simpa using hB, by omega, by simpa using hf, ?_, a, len, cap, zs, ⟨h1, h2, ?_⟩, h4, ?_⟩
  · show (w.setCell _ _).cell? _ = _
    exact World.cell?_setCell_same w _ _ hc
  rotate_left
  · show (w.setCell _ _).cell? _ = _
    rw [World.cell?_setCell_other w _ _ _ (by simp)]; exact h5
  rcases h3 with h3 | ⟨b, off, e, hb, hz⟩
  · exact .inl h3
  · refine .inr ⟨b, off, e, hb, fun i hi => ⟨(hz i hi).1, ?_⟩⟩
    have := (hz i hi).2
    rw [Kept.cell (Kept.of_setCell B 1 w _ n) (by omega) (by omega)]
    exact this

theorem Rd.alloc {w : World} {B : Nat} {p : Int} (h : Rd w B p) (o : Obj) : Rd (w.alloc o) B p := by
  obtain ⟨hB, hp, hf, hc, a, len, cap, zs, ⟨h1, h2, h3⟩, h4, h5⟩ := h
  have hk := (Kept.refl w.heap.size w).alloc o
  refine ⟨Nat.lt_of_lt_of_le hB hk.size, hp, by rw [hk.frozen hB (by omega)]; exact hf, by rw [hk.cell hB (by omega)]; exact hc, a, len, cap, zs, ⟨h1, h2, ?_⟩, h4, by rw [hk.cell hB (by omega)]; exact h5⟩
  rcases h3 with h3 | ⟨b, off, e, hb, hz⟩
  · exact .inl h3
  · exact .inr ⟨b, off, e, hb, fun i hi => ⟨(hz i hi).1, by rw [hk.cell (by omega) (by omega)]; exact (hz i hi).2⟩⟩

/-- A reader below is not touched by a store into a block above. -/
theorem Rd.setCell {w : World} {B : Nat} {p : Int} (h : Rd w B p) (b o : Nat) (hb : B < b) (v : Value) : Rd (w.setCell ⟨b, o, none⟩ v) B p := by
  obtain ⟨hB, hp, hf, hc, a, len, cap, zs, ⟨h1, h2, h3⟩, h4, h5⟩ := h
  have hk : ∀ k, k ≤ B → (w.setCell ⟨b, o, none⟩ v).heap[k]? = w.heap[k]? := fun k hk => Below.heap_setCell w ⟨b, o, none⟩ v k (by show k ≠ b; omega)
  have hcell : ∀ k q, k ≤ B → (w.setCell ⟨b, o, none⟩ v).cell? ⟨k, q, none⟩ = w.cell? ⟨k, q, none⟩ := fun k q hq => World.cell?_of_block (w := w) (hk k hq)
  refine ⟨by simpa using hB, hp, by rw [World.frozen?_of_block (w := w) (hk B (by omega))]; exact hf, by rw [hcell _ _ (by omega)]; exact hc, a, len, cap, zs, ⟨h1, h2, ?_⟩, h4, by rw [hcell _ _ (by omega)]; exact h5⟩
  rcases h3 with h3 | ⟨b', off, e, hb', hz⟩
  · exact .inl h3
  · exact .inr ⟨b', off, e, hb', fun i hi => ⟨(hz i hi).1, by rw [hcell _ _ (by omega)]; exact (hz i hi).2⟩⟩

/-- Block b is not the one where the reader's code lies. -/
def Apart (b B : Nat) (w : World) : Prop := ∀ a len cap, w.cell? ⟨B, 0, none⟩ = some (.slice (some a) len cap) → len = 0 ∨ a.block ≠ b
theorem Apart.keep {b B : Nat} {w w' : World} (h : Apart b B w) (hB : B < w.heap.size) (hk : Kept B w w') : Apart b B w' := fun a len cap e => h a len cap (by rw [← hk.head hB]; exact e)
theorem Rd.apart {w : World} {B : Nat} {p : Int} (h : Rd w B p) {b : Nat} (hb : B ≤ b) : Apart b B w := by
  intro a len cap e
  obtain ⟨hB, hp, hf, hc, a', len', cap', zs, ⟨h1, h2, h3⟩, h4, h5⟩ := h
  rw [h5] at e
  simp only [Option.some.injEq, Value.slice.injEq] at e
  obtain ⟨rfl, rfl, rfl⟩ := e
  rcases h3 with h3 | ⟨b', off, e, hb', -⟩
  · exact .inl h3
  · simp only [Option.some.injEq] at e
    subst e
    exact .inr (by show b' ≠ b; omega)
theorem Rd.setOther {w : World} {B : Nat} {p : Int} (h : Rd w B p) (b o : Nat) (hb : b ≠ B) (ha : Apart b B w) (v : Value) : Rd (w.setCell ⟨b, o, none⟩ v) B p := by
  obtain ⟨hB, hp, hf, hc, a, len, cap, zs, ⟨h1, h2, h3⟩, h4, h5⟩ := h
  have hk : ∀ k, k ≠ b → (w.setCell ⟨b, o, none⟩ v).heap[k]? = w.heap[k]? := fun k hk => Below.heap_setCell w ⟨b, o, none⟩ v k (by show k ≠ b; exact hk)
  have hcell : ∀ k q, k ≠ b → (w.setCell ⟨b, o, none⟩ v).cell? ⟨k, q, none⟩ = w.cell? ⟨k, q, none⟩ := fun k q hq => World.cell?_of_block (w := w) (hk k hq)
  refine ⟨by simpa using hB, hp, by rw [World.frozen?_of_block (w := w) (hk B (by omega))]; exact hf, by rw [hcell _ _ (by omega)]; exact hc, a, len, cap, zs, ⟨h1, h2, ?_⟩, h4, by rw [hcell _ _ (by omega)]; exact h5⟩
  rcases h3 with h3 | ⟨b', off, e, hb', hz⟩
  · exact .inl h3
  · subst e
    rcases ha _ _ _ h5 with e | e
    · exact .inl e
    · exact .inr ⟨b', off, rfl, hb', fun i hi => ⟨(hz i hi).1, by rw [hcell _ _ e]; exact (hz i hi).2⟩⟩

def isIn (lo hi : Int) : Value → Bool
  | .int .i64 n => decide (lo ≤ n ∧ n ≤ hi)
  | _ => false
def isNum : Value → Bool
  | .int .i64 _ => true
  | _ => false

/-- A table written out: the entry at a place within it. -/
theorem tab_at (lo hi : Int) (C : Array Value) (hC : C.toList.all (isIn lo hi) = true) (i : Nat) (h : i < C.toList.length) :
    ∃ u, (lo ≤ u ∧ u ≤ hi) ∧ C[i]? = some (.int .i64 u) := by
  rw [List.all_eq_true] at hC
  have := hC _ (List.getElem_mem h)
  have e : C[i]? = some C.toList[i] := by rw [← Array.getElem?_toList, List.getElem?_eq_getElem h]
  rw [e]
  generalize C.toList[i] = v at this
  unfold isIn at this
  split at this
  · rename_i n; exact ⟨n, by simpa using this, rfl⟩
  · cases this
/-- A row of numbers written out: the entry at a place within it is a number. -/
theorem row_at (C : Array Value) (hC : C.toList.all isNum = true) (i : Nat) (h : i < C.toList.length) :
    ∃ u, C[i]? = some (.int .i64 u) := by
  rw [List.all_eq_true] at hC
  have := hC _ (List.getElem_mem h)
  have e : C[i]? = some C.toList[i] := by rw [← Array.getElem?_toList, List.getElem?_eq_getElem h]
  rw [e]
  generalize C.toList[i] = v at this
  unfold isNum at this
  split at this
  · rename_i n; exact ⟨n, rfl⟩
  · cases this

theorem Kept.last {B : Nat} {w w' : World} {D : Array Value} {T : TypeId} (hk : Kept B (w.alloc (.cells D T)) w') (hB : B < w.heap.size) (i : Nat) :
    w'.cell? ⟨w.heap.size, i, none⟩ = D[i]? := by
  rw [hk.cell (by simp) (by omega)]; exact World.cell?_alloc_at (w := w) D T _ _ rfl
/-- The table that was laid last, behind a pick. -/
theorem Kept.tab {B : Nat} {w w' : World} {D : Array Value} {T : TypeId} (hk : Kept B (w.alloc (.cells D T)) w') (hB : B < w.heap.size)
    (lo hi : Int) (hD : D.toList.all (isIn lo hi) = true) (i : Nat) (h : i < D.toList.length) : ∃ v, (lo ≤ v ∧ v ≤ hi) ∧ w'.cell? ⟨w.heap.size, i, none⟩ = some (.int .i64 v) := by
  rw [hk.last hB]; exact tab_at lo hi D hD i h
/-- The row that was laid last, behind a pick. -/
theorem Kept.row {B : Nat} {w w' : World} {D : Array Value} {T : TypeId} (hk : Kept B (w.alloc (.cells D T)) w') (hB : B < w.heap.size)
    (hD : D.toList.all isNum = true) (i : Nat) (h : i < D.toList.length) : ∃ v, w'.cell? ⟨w.heap.size, i, none⟩ = some (.int .i64 v) := by
  rw [hk.last hB]; exact row_at D hD i h
/-- The row that was laid before a table, behind a pick. -/
theorem Kept.row2 {B : Nat} {w w' : World} {C : Array Value} {T : TypeId} {O : Obj} (hk : Kept B ((w.alloc (.cells C T)).alloc O) w') (hB : B < w.heap.size)
    (hC : C.toList.all isNum = true) (i : Nat) (h : i < C.toList.length) : ∃ v, w'.cell? ⟨w.heap.size, i, none⟩ = some (.int .i64 v) :=
  Kept.row (B := B) (w := w) (T := T) (((Kept.refl B _).alloc O).trans hk) hB hC i h

/-- What is read below stays readable. -/
theorem Row8.keep {w w1 : World} {a : Option Addr} {len cap : Nat} {zs : Nat → Int} (h : Row8 w w.heap.size a len cap zs) (k : Below w.heap.size w w1) : Row8 w1 w1.heap.size a len cap zs := by
  obtain ⟨h1, h2, h3⟩ := h
  refine ⟨h1, h2, ?_⟩
  rcases h3 with h3 | ⟨b, off, e, hb, hz⟩
  · exact .inl h3
  · exact .inr ⟨b, off, e, Nat.lt_of_lt_of_le hb k.size, fun i hi => ⟨(hz i hi).1, by rw [k.cell (p := ⟨b, off + i, none⟩) hb]; exact (hz i hi).2⟩⟩

/-- A reader that has just been made. -/
theorem Rd.fresh {w : World} {a : Option Addr} {len cap : Nat} {zs : Nat → Int} (T : TypeId) (h : Row8 w w.heap.size a len cap zs) (hl : len ≤ 2000) :
    Rd (w.alloc (.cells #[.slice a len cap, .int .i64 0] T)) w.heap.size 0 := by
  obtain ⟨h1, h2, h3⟩ := h
  have hk := (Kept.refl w.heap.size w).alloc (.cells #[.slice a len cap, .int .i64 0] T)
  refine ⟨by simp, by omega, by simp [go_sem], by rw [World.cell?_alloc_at (w := w) _ T _ _ rfl]; rfl, a, len, cap, zs, ⟨h1, h2, ?_⟩, hl, by rw [World.cell?_alloc_at (w := w) _ T _ _ rfl]; rfl⟩
  rcases h3 with h3 | ⟨b, off, e, hb, hz⟩
  · exact .inl h3
  · exact .inr ⟨b, off, e, hb, fun i hi => ⟨(hz i hi).1, by rw [hk.cell (by omega) (by omega)]; exact (hz i hi).2⟩⟩

/-- The table that was laid last, behind another block. -/
theorem Kept.tab2 {B : Nat} {w w' : World} {D : Array Value} {T : TypeId} {O : Obj} (hk : Kept B ((w.alloc O).alloc (.cells D T)) w') (hB : B < w.heap.size)
    (lo hi : Int) (hD : D.toList.all (isIn lo hi) = true) (i : Nat) (h : i < D.toList.length) : ∃ v, (lo ≤ v ∧ v ≤ hi) ∧ w'.cell? ⟨w.heap.size + 1, i, none⟩ = some (.int .i64 v) := by
  have := hk.tab (w := w.alloc O) (by simp; omega) lo hi hD i h
  simpa using this

end Go.Proofs.Ytmjmafgjejphbaa
