/-
  Boxes of two numbers that a call makes and writes: what holds of all of them from call to call.
-/
import Derived.Test.YtmjmafgjejphbaaTailR
import Derived.Deep.RegionWith
namespace Go.Proofs.Ytmjmafgjejphbaa
open Go.RowKit

/-- One box. -/
def Bx1 (w W : World) (x : Nat × Int × Int) : Prop := (w.heap.size ≤ x.1 ∧ x.1 < W.heap.size) ∧ (W.cell? ⟨x.1, 0, none⟩ = some (.int .i64 x.2.1) ∧ W.cell? ⟨x.1, 1, none⟩ = some (.int .i64 x.2.2)) ∧ W.frozen? ⟨x.1, 0, none⟩ = false ∧ W.frozen? ⟨x.1, 1, none⟩ = false
/-- What lay below is as it was; the boxes of the list, apart from each other, hold these numbers and may be written. -/
def Bx (w : World) (L : List (Nat × Int × Int)) (W : World) : Prop := Below w.heap.size w W ∧ (L.map (·.1)).Nodup ∧ ∀ x ∈ L, Bx1 w W x

theorem Bx.nil (w : World) : Bx w [] w := ⟨Below.refl _ _, by simp, by simp⟩
theorem Bx1.below {w W w' : World} {x : Nat × Int × Int} (h : Bx1 w W x) (hb : Below W.heap.size W w') : Bx1 w w' x := by
  obtain ⟨⟨a, b⟩, ⟨c, d⟩, e, f⟩ := h
  exact ⟨⟨a, Nat.lt_of_lt_of_le b hb.size⟩, ⟨by rw [hb.cell (p := ⟨x.1, 0, none⟩) b]; exact c, by rw [hb.cell (p := ⟨x.1, 1, none⟩) b]; exact d⟩, by rw [hb.frozen (p := ⟨x.1, 0, none⟩) b]; exact e, by rw [hb.frozen (p := ⟨x.1, 1, none⟩) b]; exact f⟩
theorem Bx.below {w W w' : World} {L : List (Nat × Int × Int)} (h : Bx w L W) (hb : Below W.heap.size W w') : Bx w L w' :=
  ⟨h.1.trans (hb.mono h.1.size), h.2.1, fun x hx => (h.2.2 x hx).below hb⟩
theorem Bx.drew {w W : World} {L : List (Nat × Int × Int)} (h : Bx w L W) : Bx w L W.drew := ⟨h.1.drew, h.2⟩
theorem Bx.drewN {w W : World} {L : List (Nat × Int × Int)} (h : Bx w L W) (n : Nat) : Bx w L (W.drewN n) := ⟨⟨h.1.os, h.1.tape, h.1.output, h.1.size, h.1.block⟩, h.2⟩
theorem Bx.alloc {w W : World} {L : List (Nat × Int × Int)} (h : Bx w L W) (o : Obj) : Bx w L (W.alloc o) := h.below ((Below.refl _ _).alloc (Nat.le_refl _) o)
theorem Bx.box {w W : World} {L : List (Nat × Int × Int)} (h : Bx w L W) (x y : Int) (T : TypeId) : Bx w ((W.heap.size, x, y) :: L) (W.alloc (.cells #[.int .i64 x, .int .i64 y] T)) := by
  have h2 := h.alloc (.cells #[.int .i64 x, .int .i64 y] T)
  refine ⟨h2.1, ?_, ?_⟩
  · rw [List.map_cons, List.nodup_cons]
    refine ⟨fun hm => ?_, h2.2.1⟩
    obtain ⟨z, hz, e⟩ := List.mem_map.1 hm
    have := (h.2.2 z hz).1.2
    simp only at e
    omega
  · intro z hz
    rcases List.mem_cons.mp hz with rfl | hz
    · exact ⟨⟨h.1.size, by simp⟩, ⟨by rw [World.cell?_alloc_at (w := W) _ T _ _ rfl]; rfl, by rw [World.cell?_alloc_at (w := W) _ T _ _ rfl]; rfl⟩, by simp [go_sem], by simp [go_sem]⟩
    · exact h2.2.2 z hz
theorem Bx.box' {w W : World} {L : List (Nat × Int × Int)} (h : Bx w L W) (x y : Int) (T : TypeId) {b : Nat} (hb : W.heap.size = b) : Bx w ((b, x, y) :: L) (W.alloc (.cells #[.int .i64 x, .int .i64 y] T)) := by
  subst hb; exact h.box x y T
theorem Bx.boxDrew {w W : World} {L : List (Nat × Int × Int)} (h : Bx w L W) (x y : Int) (T : TypeId) : Bx w ((W.heap.size, x, y) :: L) ((W.alloc (.cells #[.int .i64 x, .int .i64 y] T)).drew) := (h.box x y T).drew
theorem Bx.tail {w W : World} {L : List (Nat × Int × Int)} {x : Nat × Int × Int} (h : Bx w (x :: L) W) : Bx w L W :=
  ⟨h.1, by have := h.2.1; rw [List.map_cons, List.nodup_cons] at this; exact this.2, fun y hy => h.2.2 y (List.mem_cons_of_mem _ hy)⟩
theorem Bx.swap {w W : World} {L : List (Nat × Int × Int)} {x y : Nat × Int × Int} (h : Bx w (x :: y :: L) W) : Bx w (y :: x :: L) W := by
  refine ⟨h.1, ?_, fun z hz => h.2.2 z ?_⟩
  · have := h.2.1
    simp only [List.map_cons, List.nodup_cons, List.mem_cons, not_or] at this ⊢
    exact ⟨⟨fun e => this.1.1 e.symm, this.2.1⟩, this.1.2, this.2.2⟩
  · simp only [List.mem_cons] at hz ⊢
    rcases hz with rfl | rfl | hz
    · exact .inr (.inl rfl)
    · exact .inl rfl
    · exact .inr (.inr hz)
/-- The two cells of a block, stored. -/
abbrev put2I (W : World) (b : Nat) (x y : Int) : World := (W.setCell ⟨b, 0, none⟩ (.int .i64 x)).setCell ⟨b, 1, none⟩ (.int .i64 y)
theorem put2I_block (W : World) (b : Nat) (x y : Int) {c : Nat} (hc : c ≠ b) : (put2I W b x y).heap[c]? = W.heap[c]? :=
  (Below.heap_setCell (W.setCell ⟨b, 0, none⟩ (.int .i64 x)) ⟨b, 1, none⟩ (.int .i64 y) c (by show c ≠ b; exact hc)).trans (Below.heap_setCell W ⟨b, 0, none⟩ (.int .i64 x) c (by show c ≠ b; exact hc))
theorem Bx.set0 {w W : World} {L : List (Nat × Int × Int)} {b : Nat} {u v : Int} (h : Bx w ((b, u, v) :: L) W) (x y : Int) : Bx w ((b, x, y) :: L) ((W.setCell ⟨b, 0, none⟩ (.int .i64 x)).setCell ⟨b, 1, none⟩ (.int .i64 y)) := by
  obtain ⟨⟨a1, a2⟩, ⟨c, d⟩, e, f⟩ := h.2.2 (b, u, v) (by simp)
  simp only at a1 a2 c d e f
  refine ⟨(h.1.setCell a1 _).setCell a1 _, h.2.1, fun z hz => ?_⟩
  have e0 : (W.setCell ⟨b, 0, none⟩ (.int .i64 x)).cell? ⟨b, 0, none⟩ = some (.int .i64 x) := World.cell?_setCell_same W _ _ c
  have e1 : (W.setCell ⟨b, 0, none⟩ (.int .i64 x)).cell? ⟨b, 1, none⟩ = some (.int .i64 v) := by rw [World.cell?_setCell_other W _ _ _ (by simp)]; exact d
  rcases List.mem_cons.mp hz with rfl | hz
  · exact ⟨⟨a1, by simpa using a2⟩, ⟨by rw [World.cell?_setCell_other _ _ _ _ (by simp)]; exact e0, World.cell?_setCell_same _ _ _ e1⟩, by simpa using e, by simpa using f⟩
  · obtain ⟨⟨b1, b2⟩, ⟨c', d'⟩, e', f'⟩ := h.2.2 z (List.mem_cons_of_mem _ hz)
    have hne : z.1 ≠ b := by
      intro he
      have hn := h.2.1
      rw [List.map_cons, List.nodup_cons] at hn
      exact hn.1 (List.mem_map.2 ⟨z, hz, he⟩)
    have hk := put2I_block W b x y hne
    exact ⟨⟨b1, by simpa using b2⟩, ⟨by rw [World.cell?_of_block (w := W) hk]; exact c', by rw [World.cell?_of_block (w := W) hk]; exact d'⟩, by rw [World.frozen?_of_block (w := W) hk]; exact e', by rw [World.frozen?_of_block (w := W) hk]; exact f'⟩
theorem Bx.push {w W : World} {L : List (Nat × Int × Int)} {x : Nat × Int × Int} (h : Bx w L W) (hx : Bx1 w W x) (hn : x.1 ∉ L.map (·.1)) : Bx w (x :: L) W :=
  ⟨h.1, by rw [List.map_cons, List.nodup_cons]; exact ⟨hn, h.2.1⟩, fun z hz => by
    rcases List.mem_cons.mp hz with rfl | hz
    · exact hx
    · exact h.2.2 z hz⟩
theorem Bx.rot {w W : World} {L : List (Nat × Int × Int)} {x y z : Nat × Int × Int} (h : Bx w (x :: y :: z :: L) W) : Bx w (z :: x :: y :: L) W := by
  have h1 := h.tail.swap
  refine ⟨h.1, ?_, fun t ht => h.2.2 t ?_⟩
  · have := h.2.1
    simp only [List.map_cons, List.nodup_cons, List.mem_cons, not_or] at this ⊢
    exact ⟨⟨fun e => this.1.2.1 e.symm, fun e => this.2.1.1 e.symm, this.2.2.1⟩, ⟨this.1.1, this.1.2.2⟩, this.2.1.2, this.2.2.2⟩
  · simp only [List.mem_cons] at ht ⊢
    rcases ht with rfl | rfl | rfl | ht
    · exact .inr (.inr (.inl rfl))
    · exact .inl rfl
    · exact .inr (.inl rfl)
    · exact .inr (.inr (.inr ht))
theorem Bx.rot' {w W : World} {L : List (Nat × Int × Int)} {x y z : Nat × Int × Int} (h : Bx w (z :: x :: y :: L) W) : Bx w (x :: y :: z :: L) W := h.rot.rot
theorem Bx.set1 {w W : World} {L : List (Nat × Int × Int)} {b : Nat} {u v : Int} {p : Nat × Int × Int} (h : Bx w (p :: (b, u, v) :: L) W) (x y : Int) : Bx w (p :: (b, x, y) :: L) ((W.setCell ⟨b, 0, none⟩ (.int .i64 x)).setCell ⟨b, 1, none⟩ (.int .i64 y)) := (h.swap.set0 x y).swap
theorem Bx.set2 {w W : World} {L : List (Nat × Int × Int)} {b : Nat} {u v : Int} {p q : Nat × Int × Int} (h : Bx w (p :: q :: (b, u, v) :: L) W) (x y : Int) : Bx w (p :: q :: (b, x, y) :: L) ((W.setCell ⟨b, 0, none⟩ (.int .i64 x)).setCell ⟨b, 1, none⟩ (.int .i64 y)) := (h.rot.set0 x y).rot'
theorem Bx.set3 {w W : World} {L : List (Nat × Int × Int)} {b : Nat} {u v : Int} {p q r : Nat × Int × Int} (h : Bx w (p :: q :: r :: (b, u, v) :: L) W) (x y : Int) : Bx w (p :: q :: r :: (b, x, y) :: L) ((W.setCell ⟨b, 0, none⟩ (.int .i64 x)).setCell ⟨b, 1, none⟩ (.int .i64 y)) := by
  have h2 := h.tail.set2 x y
  have hp := h.2.2 p (by simp)
  have hn := h.2.1
  simp only [List.map_cons, List.nodup_cons, List.mem_cons, not_or] at hn
  have hk := put2I_block W b x y hn.1.2.2.1
  refine Bx.push h2 ⟨⟨hp.1.1, by simpa using hp.1.2⟩, ⟨by rw [World.cell?_of_block (w := W) hk]; exact hp.2.1.1, by rw [World.cell?_of_block (w := W) hk]; exact hp.2.1.2⟩, by rw [World.frozen?_of_block (w := W) hk]; exact hp.2.2.1, by rw [World.frozen?_of_block (w := W) hk]; exact hp.2.2.2⟩ ?_
  simp only [List.map_cons, List.mem_cons, not_or]
  exact hn.1
/-- Both boxes stored, one behind the other. -/
theorem Bx.set01 {w W : World} {L : List (Nat × Int × Int)} {b c : Nat} {u v u' v' : Int} (h : Bx w ((b, u, v) :: (c, u', v') :: L) W) (x y x' y' : Int) :
    Bx w ((b, x, y) :: (c, x', y') :: L) ((((W.setCell ⟨b, 0, none⟩ (.int .i64 x)).setCell ⟨b, 1, none⟩ (.int .i64 y)).setCell ⟨c, 0, none⟩ (.int .i64 x')).setCell ⟨c, 1, none⟩ (.int .i64 y')) := (h.set0 x y).set1 x' y'
/-- What the first box holds. -/
theorem Bx.get0 {w W : World} {L : List (Nat × Int × Int)} {b : Nat} {x y : Int} (h : Bx w ((b, x, y) :: L) W) : W.cell? ⟨b, 0, none⟩ = some (.int .i64 x) ∧ W.cell? ⟨b, 1, none⟩ = some (.int .i64 y) := (h.2.2 (b, x, y) (by simp)).2.1
theorem Bx.get1 {w W : World} {L : List (Nat × Int × Int)} {p : Nat × Int × Int} {b : Nat} {x y : Int} (h : Bx w (p :: (b, x, y) :: L) W) : W.cell? ⟨b, 0, none⟩ = some (.int .i64 x) ∧ W.cell? ⟨b, 1, none⟩ = some (.int .i64 y) := h.tail.get0
theorem Bx.get2 {w W : World} {L : List (Nat × Int × Int)} {p q : Nat × Int × Int} {b : Nat} {x y : Int} (h : Bx w (p :: q :: (b, x, y) :: L) W) : W.cell? ⟨b, 0, none⟩ = some (.int .i64 x) ∧ W.cell? ⟨b, 1, none⟩ = some (.int .i64 y) := h.tail.get1
/-! The boxes are apart. -/
theorem bx_apart2 {w W : World} {b c : Nat} {x y x' y' : Int} (h : Bx w [(b, x, y), (c, x', y')] W) : b ≠ c ∧ c ≠ b := by
  have := h.2.1
  simp only [List.map_cons, List.nodup_cons, List.mem_cons, not_or] at this
  exact ⟨this.1.1, fun e => this.1.1 e.symm⟩
theorem bx_apart3 {w W : World} {b c d : Nat} {x y x' y' x2 y2 : Int} (h : Bx w [(b, x, y), (c, x', y'), (d, x2, y2)] W) : (b ≠ c ∧ b ≠ d ∧ c ≠ d) ∧ c ≠ b ∧ d ≠ b ∧ d ≠ c := by
  have := h.2.1
  simp only [List.map_cons, List.nodup_cons, List.mem_cons, not_or] at this
  exact ⟨⟨this.1.1, this.1.2.1, this.2.1.1⟩, fun e => this.1.1 e.symm, fun e => this.1.2.1 e.symm, fun e => this.2.1.1 e.symm⟩
theorem bx_apart4 {w W : World} {b c d k : Nat} {x y x' y' x2 y2 x3 y3 : Int} (h : Bx w [(b, x, y), (c, x', y'), (d, x2, y2), (k, x3, y3)] W) :
    (b ≠ c ∧ b ≠ d ∧ b ≠ k) ∧ (c ≠ b ∧ c ≠ d ∧ c ≠ k) ∧ (d ≠ b ∧ d ≠ c ∧ d ≠ k) ∧ k ≠ b ∧ k ≠ c ∧ k ≠ d := by
  have := h.2.1
  simp only [List.map_cons, List.nodup_cons, List.mem_cons, not_or] at this
  exact ⟨⟨this.1.1, this.1.2.1, this.1.2.2.1⟩, ⟨fun e => this.1.1 e.symm, this.2.1.1, this.2.1.2.1⟩, ⟨fun e => this.1.2.1 e.symm, fun e => this.2.1.1 e.symm, this.2.2.1.1⟩, fun e => this.1.2.2.1 e.symm, fun e => this.2.1.2.1 e.symm, fun e => this.2.2.1.1 e.symm⟩
theorem Bx.get3 {w W : World} {L : List (Nat × Int × Int)} {p q r : Nat × Int × Int} {b : Nat} {x y : Int} (h : Bx w (p :: q :: r :: (b, x, y) :: L) W) : W.cell? ⟨b, 0, none⟩ = some (.int .i64 x) ∧ W.cell? ⟨b, 1, none⟩ = some (.int .i64 y) := h.tail.get2
theorem bx_one (w : World) (x y : Int) (T : TypeId) : Bx w [(w.heap.size, x, y)] (w.alloc (.cells #[.int .i64 x, .int .i64 y] T)) := (Bx.nil w).box x y T
theorem bx_two (w : World) (x y x' y' : Int) (T T' : TypeId) : Bx w [(w.heap.size + 1, x', y'), (w.heap.size, x, y)] ((w.alloc (.cells #[.int .i64 x, .int .i64 y] T)).alloc (.cells #[.int .i64 x', .int .i64 y'] T')) := (bx_one w x y T).box' x' y' T' (by simp)
theorem bx_three (w : World) (x y x' y' x2 y2 : Int) (T T' T2 : TypeId) : Bx w [(w.heap.size + 1 + 1, x2, y2), (w.heap.size + 1, x', y'), (w.heap.size, x, y)] (((w.alloc (.cells #[.int .i64 x, .int .i64 y] T)).alloc (.cells #[.int .i64 x', .int .i64 y'] T')).alloc (.cells #[.int .i64 x2, .int .i64 y2] T2)) := (bx_two w x y x' y' T T').box' x2 y2 T2 (by simp)

/-- A field of a struct that lies in no box. -/
theorem low_run (p q : Int) (w : World) : Sem.run Try.prog (Instr.field 31 (.agg #[.int .i64 p, .int .i64 q]) 0) w = .ok (.int .i64 p) w := by rfl

/-! ### The class of the worlds in which the boxes hold -/
structure BxW (w : World) (L : List (Nat × Int × Int)) where
  it : World
  ok : Bx w L it
theorem BxW.at0 {w : World} {b : Nat} {x y : Int} {L : List (Nat × Int × Int)} (z : BxW w ((b, x, y) :: L)) : z.it.cell? ⟨b, 0, none⟩ = some (.int .i64 x) ∧ z.it.cell? ⟨b, 1, none⟩ = some (.int .i64 y) := z.ok.get0
theorem BxW.at1 {w : World} {b : Nat} {x y : Int} {p : Nat × Int × Int} {L : List (Nat × Int × Int)} (z : BxW w (p :: (b, x, y) :: L)) : z.it.cell? ⟨b, 0, none⟩ = some (.int .i64 x) ∧ z.it.cell? ⟨b, 1, none⟩ = some (.int .i64 y) := z.ok.get1
theorem BxW.at2 {w : World} {b : Nat} {x y : Int} {p q : Nat × Int × Int} {L : List (Nat × Int × Int)} (z : BxW w (p :: q :: (b, x, y) :: L)) : z.it.cell? ⟨b, 0, none⟩ = some (.int .i64 x) ∧ z.it.cell? ⟨b, 1, none⟩ = some (.int .i64 y) := z.ok.get2
theorem BxW.at3 {w : World} {b : Nat} {x y : Int} {p q r : Nat × Int × Int} {L : List (Nat × Int × Int)} (z : BxW w (p :: q :: r :: (b, x, y) :: L)) : z.it.cell? ⟨b, 0, none⟩ = some (.int .i64 x) ∧ z.it.cell? ⟨b, 1, none⟩ = some (.int .i64 y) := z.ok.tail.get2
theorem bx_class (w : World) (L : List (Nat × Int × Int)) : (fun w' => ∃ x : BxW w L, w' = x.it) = Bx w L :=
  funext fun w' => propext ⟨fun ⟨x, hx⟩ => hx ▸ x.ok, fun h => ⟨⟨w', h⟩, rfl⟩⟩
theorem Calls.heldB {P : Program} {f : FuncId} {args : Array Value} {w : World} {L : List (Nat × Int × Int)} {v : Value} {x : BxW w L}
    (h : Calls P f args x.it fun e w' => e = .returned v ∧ Below x.it.heap.size x.it w') : Calls P f args x.it fun e w' => e = .returned v ∧ ∃ y : BxW w L, w' = y.it :=
  h.mono fun _ w' ⟨he, hb⟩ => ⟨he, ⟨w', x.ok.below hb⟩, rfl⟩
theorem Calls.heldB_same {P : Program} {f : FuncId} {args : Array Value} {w : World} {L : List (Nat × Int × Int)} {v : Value} {x : BxW w L}
    (h : Calls P f args x.it fun e w' => e = .returned v ∧ x.it = w') : Calls P f args x.it fun e w' => e = .returned v ∧ ∃ y : BxW w L, w' = y.it :=
  h.mono fun _ _ ⟨he, hb⟩ => ⟨he, x, hb.symm⟩
theorem wp_region_bx {P : Program} {id : Nat} {Q : Exit → Act → World → Prop} {a : Act} {w W : World} {l : List Oper} {L : List (Nat × Int × Int)} (hx : Bx w L W) (hm : P.follows .mixedOrders = true) (hB : Region.lexB .any l.toArray = true)
    (h : wpQuiet P l.toArray (fun w' => ∃ x : BxW w L, w' = x.it) (fun a' => ∀ w', Bx w L w' → Q .normal a' w') l a) : (Code.region id l.toArray true).wp P Q a W := by
  rw [bx_class] at h
  exact wp_region_quiet (C := Bx w L) hm hB hx.drew (by simpa using h)
theorem wp_region_bx_tail {P : Program} {id : Nat} {Q : Exit → Act → World → Prop} {a : Act} {w W : World} {l : List Oper} {L : List (Nat × Int × Int)} (n : Nat) (hx : Bx w L W) (hm : P.follows .mixedOrders = true) (hB : Region.lexTailB .any l.toArray n = true)
    (h : wpQuiet P l.toArray (fun w' => ∃ x : BxW w L, w' = x.it) (fun a' => ∀ w', Bx w L w' → wpList P l.toArray Q (l.drop n) a' w') (l.take n) a) : (Code.region id l.toArray true).wp P Q a W := by
  rw [bx_class] at h
  exact Fxt.wp_region_quiet_tail (C := Bx w L) n hm hB hx.drew h

end Go.Proofs.Ytmjmafgjejphbaa
