/-
  A law for a region that draws its order: what each operation does is shown once, by itself, whatever the order is.
  'T i v w': what is known of the value v of operation i in the world w; 'E': how the world may go on (T is kept); 'R k': what holds of the world when k operations have come up.
-/
import Derived.WalkKit
import Derived.OrdersHeld
namespace Go.Fxr

/-- The value that operation i has yielded. -/
def val (ops : Array Oper) (a : Act) (i : Nat) : Value := match (ops[i]?).bind (·.dst) with | some d => a.tmps.getD d undef | none => undef

/-- Operation i has come up. -/
def on (listed : Array Bool) (i : Nat) : Prop := listed.getD i false = true

/-- Each operation waits only for earlier ones. -/
def ordered (md : Region.Mode) (ops : Array Oper) : Bool := (List.range ops.size).all fun i => match ops[i]? with | some o => o.after.all fun e => !Region.binds md e || decide (e.on < i) | none => true
/-- The slots that two operations write are apart. -/
def apartDsts (ops : Array Oper) : Bool := (List.range ops.size).all fun i => (List.range ops.size).all fun j => i == j || match (ops[i]?).bind (·.dst), (ops[j]?).bind (·.dst) with | some d, some e => d != e | _, _ => true

theorem apart_of {ops : Array Oper} (h : apartDsts ops = true) {i j : Nat} {d e : Tmp} (hi : (ops[i]?).bind (·.dst) = some d) (hj : (ops[j]?).bind (·.dst) = some e) (hij : i ≠ j) : d ≠ e := by
  have li : i < ops.size := by
    apply Nat.lt_of_not_le; intro hc; rw [Array.getElem?_eq_none hc] at hi; cases hi
  have lj : j < ops.size := by
    apply Nat.lt_of_not_le; intro hc; rw [Array.getElem?_eq_none hc] at hj; cases hj
  unfold apartDsts at h
  rw [List.all_eq_true] at h
  have h1 := h i (List.mem_range.2 li)
  rw [List.all_eq_true] at h1
  have h2 := h1 j (List.mem_range.2 lj)
  rw [hi, hj] at h2
  simpa [hij] using h2

theorem all_of_ready_nil {md : Region.Mode} {ops : Array Oper} {listed : Array Bool} (ho : ordered md ops = true) (hs : listed.size = ops.size)
    (hr : Region.ready md ops listed = []) : ∀ i, i < ops.size → on listed i := by
  intro i
  induction i using Nat.strongRecOn with
  | ind i ih =>
    intro hi
    apply Classical.byContradiction
    intro hn
    have hm : i ∈ Region.ready md ops listed := by
      unfold Region.ready
      rw [List.mem_filter]
      refine ⟨List.mem_range.2 hi, ?_⟩
      have hl : listed[i]? = some listed[i] := Array.getElem?_eq_getElem (by omega)
      have hf : listed[i] = false := by
        unfold on at hn
        simpa [Array.getD, hs, hi] using hn
      have e1 : listed.getD i true = false := by simp [Array.getD, hs, hi, hf]
      have ho2 : ops[i]? = some ops[i] := Array.getElem?_eq_getElem hi
      rw [e1, ho2]
      simp only [Bool.not_false, Bool.true_and, Option.map_some, Option.getD_some]
      rw [Array.all_eq_true']
      intro e he
      cases hb : Region.binds md e with
      | false => simp
      | true =>
        have hlt : e.on < i := by
          unfold ordered at ho
          rw [List.all_eq_true] at ho
          have := ho i (List.mem_range.2 hi)
          rw [ho2] at this
          simp only [Array.all_eq_true'] at this
          simpa [hb] using this e he
        have := ih e.on hlt (by omega)
        unfold on at this
        rw [this]; simp
    rw [hr] at hm
    cases hm

/-- The frame a is the frame a0 but for what has come up. -/
structure Like (ops : Array Oper) (a0 a : Act) : Prop where
  defers : a.defers = a0.defers
  size : a.tmps.size = a0.tmps.size
  rest : ∀ t : Tmp, (∀ i : Nat, (ops[i]?).bind (·.dst) ≠ some t) → a.tmps.getD t undef = a0.tmps.getD t undef

def waits (md : Region.Mode) (ops : Array Oper) (j i : Nat) : Prop := ∃ o, ops[j]? = some o ∧ ∃ e, e ∈ o.after ∧ Region.binds md e = true ∧ e.on = i

/-- The value that operation i has just yielded, if it has a slot. -/
def got (o : Oper) (v : Value) : Value := match o.dst with | some _ => v | none => undef

theorem getD_put_same (a : Act) (d : Tmp) (v : Value) (h : d < a.tmps.size) : (a.put (some d) v).tmps.getD d undef = v := by
  show (a.tmps.setIfInBounds d v).getD d undef = v
  rw [Array.getD_eq_getD_getElem?, Array.getElem?_setIfInBounds]
  simp [h]
theorem getD_put_other (a : Act) (d t : Tmp) (v : Value) (h : d ≠ t) : (a.put (some d) v).tmps.getD t undef = a.tmps.getD t undef := by
  show (a.tmps.setIfInBounds d v).getD t undef = _
  rw [Array.getD_eq_getD_getElem?, Array.getD_eq_getD_getElem?, Array.getElem?_setIfInBounds_ne h]

theorem getD_b (listed : Array Bool) (i : Nat) (h : i < listed.size) : listed.getD i true = listed.getD i false := by
  simp [Array.getD_eq_getD_getElem?, Array.getElem?_eq_getElem h]
theorem on_set (listed : Array Bool) (i j : Nat) (hi : i < listed.size) : on (listed.setIfInBounds i true) j ↔ (j = i ∨ on listed j) := by
  unfold on
  rw [Array.getD_eq_getD_getElem?, Array.getD_eq_getD_getElem?]
  by_cases h : i = j
  · subst h
    rw [Array.getElem?_setIfInBounds_self_of_lt hi]; simp
  · rw [Array.getElem?_setIfInBounds_ne h]
    constructor
    · intro x; exact .inr x
    · rintro (x | x)
      · exact absurd x.symm h
      · exact x

theorem wpAny_typed {P : Program} {md : Region.Mode} {ops : Array Oper} {Q : Exit → Act → World → Prop}
    (T : Nat → Value → World → Prop) (R : Nat → World → Prop) (E : World → World → Prop)
    (hE : ∀ j v w w', T j v w → E w w' → T j v w') (a0 : Act) (ho : ordered md ops = true) (ha : apartDsts ops = true)
    (hsz : ∀ (i : Nat) (d : Tmp), (ops[i]?).bind (·.dst) = some d → d < a0.tmps.size)
    (hstep : ∀ i o, ops[i]? = some o → ∀ a w k, k < ops.size → Like ops a0 a → R k w →
      (∀ e, e ∈ o.after → Region.binds md e = true → T e.on (val ops a e.on) w) →
      (∀ (j : Nat) (d : Tmp), (ops[j]?).bind (·.dst) = some d → waits md ops j i → a.tmps.getD d undef = a0.tmps.getD d undef) →
      wpOp P ops Q i (fun a' w' => ∃ v, a' = a.put o.dst v ∧ T i (got o v) w' ∧ R (k + 1) w' ∧ E w w') a w)
    (hdone : ∀ a w k, k ≤ ops.size → Like ops a0 a → R k w → (∀ i, i < ops.size → T i (val ops a i) w) → Q .normal a w) :
    ∀ (fuel k : Nat) (listed : Array Bool) (a : Act) (w : World), listed.size = ops.size → Like ops a0 a → R k w →
      (∀ i, i < ops.size → on listed i → T i (val ops a i) w) →
      (∀ (j : Nat) (d : Tmp), (ops[j]?).bind (·.dst) = some d → ¬ on listed j → a.tmps.getD d undef = a0.tmps.getD d undef) →
      (∀ j i, waits md ops j i → on listed j → on listed i) →
      ((List.range ops.size).filter (fun i => !listed.getD i true)).length ≤ fuel →
      k + ((List.range ops.size).filter (fun i => !listed.getD i true)).length ≤ ops.size →
      wpAny P md ops Q fuel listed a w := by
  have fin : ∀ (listed : Array Bool) (a : Act) (w : World) (k : Nat), k ≤ ops.size → listed.size = ops.size → Like ops a0 a → R k w →
      (∀ i, i < ops.size → on listed i → T i (val ops a i) w) → Region.ready md ops listed = [] → Q .normal a w :=
    fun listed a w k hk hs hl hR hT hr => hdone a w k hk hl hR fun i hi => hT i hi (all_of_ready_nil ho hs hr i hi)
  intro fuel
  induction fuel with
  | zero =>
    intro k listed a w hs hl hR hT hold hw hf hkf
    have hnil : Region.ready md ops listed = [] := by
      have h0 : (List.range ops.size).filter (fun i => !listed.getD i true) = [] := List.eq_nil_of_length_eq_zero (by omega)
      apply List.eq_nil_iff_forall_not_mem.2
      intro i hi
      unfold Region.ready at hi
      rw [List.mem_filter] at hi
      have : i ∈ (List.range ops.size).filter (fun i => !listed.getD i true) := List.mem_filter.2 ⟨hi.1, by have := hi.2; simp only [Bool.and_eq_true] at this; exact this.1⟩
      rw [h0] at this; cases this
    exact ⟨hnil, fin listed a w k (by omega) hs hl hR hT hnil⟩
  | succ fuel ih =>
    intro k listed a w hs hl hR hT hold hw hf hkf
    refine ⟨fin listed a w k (by omega) hs hl hR hT, fun i hi => ?_⟩
    unfold Region.ready at hi
    rw [List.mem_filter, List.mem_range] at hi
    obtain ⟨hi1, hi2⟩ := hi
    simp only [Bool.and_eq_true, Bool.not_eq_true'] at hi2
    have hopi : ops[i]? = some ops[i] := Array.getElem?_eq_getElem hi1
    rw [hopi] at hi2
    simp only [Option.map_some, Option.getD_some, Array.all_eq_true'] at hi2
    obtain ⟨hun, hdeps⟩ := hi2
    have hnot : ¬ on listed i := by
      unfold on
      rw [← getD_b listed i (by omega), hun]; decide
    have hde : ∀ e, e ∈ ops[i].after → Region.binds md e = true → on listed e.on := by
      intro e he hb
      have := hdeps e he
      simpa [hb, on] using this
    have hlt : ∀ e, e ∈ ops[i].after → Region.binds md e = true → e.on < ops.size := by
      intro e he hb
      unfold ordered at ho
      rw [List.all_eq_true] at ho
      have := ho i (List.mem_range.2 hi1)
      rw [hopi] at this
      simp only [Array.all_eq_true'] at this
      have := this e he
      simp [hb] at this; omega
    have hpos : 0 < ((List.range ops.size).filter (fun i => !listed.getD i true)).length :=
      List.length_pos_of_mem (List.mem_filter.2 ⟨List.mem_range.2 hi1, by simp [hun]⟩ : i ∈ _)
    refine wpOp_mono ?_ (hstep i ops[i] hopi a w k (by omega) hl hR (fun e he hb => hT e.on (hlt e he hb) (hde e he hb)) (fun j d hj hwj => hold j d hj (fun hjl => hnot (hw j i hwj hjl))))
    rintro a' w' ⟨v, rfl, hTi, hR', hEE⟩
    have hon : ∀ j, on (listed.setIfInBounds i true) j ↔ (j = i ∨ on listed j) := fun j => on_set listed i j (by omega)
    have hval : ∀ j, j ≠ i → val ops (a.put ops[i].dst v) j = val ops a j := by
      intro j hji
      unfold val
      cases hj : (ops[j]?).bind (·.dst) with
      | none => rfl
      | some d =>
        cases hd : ops[i].dst with
        | none => rfl
        | some di =>
          exact getD_put_other a di d v (apart_of ha (i := i) (j := j) (by rw [hopi]; exact hd) hj (fun h => hji h.symm))
    have hvali : val ops (a.put ops[i].dst v) i = got ops[i] v := by
      unfold val got
      rw [hopi]
      simp only [Option.bind_some]
      cases hd : ops[i].dst with
      | none => rfl
      | some di => exact getD_put_same a di v (by rw [hl.size]; exact hsz i di (by rw [hopi]; exact hd))
    have hsub : ((List.range ops.size).filter (fun k => !(listed.setIfInBounds i true).getD k true)).length < ((List.range ops.size).filter (fun k => !listed.getD k true)).length := by
      have e1 : (List.range ops.size).filter (fun k => !(listed.setIfInBounds i true).getD k true) = ((List.range ops.size).filter (fun k => !listed.getD k true)).filter (fun k => k != i) := by
        rw [List.filter_filter]
        apply List.filter_congr
        intro k hk
        have hk' : k < listed.size := by rw [hs]; exact List.mem_range.1 hk
        by_cases hki : i = k
        · subst hki
          rw [Array.getD_eq_getD_getElem?, Array.getElem?_setIfInBounds_self_of_lt hk']; simp
        · rw [Array.getD_eq_getD_getElem?, Array.getElem?_setIfInBounds_ne hki, ← Array.getD_eq_getD_getElem?]
          have : (k != i) = true := by simpa using fun h => hki h.symm
          rw [this, Bool.true_and]
      rw [e1]
      have hmem : i ∈ (List.range ops.size).filter (fun k => !listed.getD k true) := List.mem_filter.2 ⟨List.mem_range.2 hi1, by simp [hun]⟩
      exact List.length_filter_lt_length_iff_exists.2 ⟨i, hmem, by simp⟩
    refine ih (k + 1) _ _ _ (by simpa using hs) ⟨?_, ?_, ?_⟩ hR' ?_ ?_ ?_ ?_ ?_
    · rw [← hl.defers]; cases ops[i].dst <;> rfl
    · rw [← hl.size]; cases ops[i].dst <;> simp [Act.put]
    · intro t ht
      rw [← hl.rest t ht]
      cases hd : ops[i].dst with
      | none => rfl
      | some di => exact getD_put_other a di t v (fun h => ht i (by rw [hopi]; show ops[i].dst = _; rw [hd, h]))
    · intro j hj hjl
      by_cases hji : j = i
      · subst hji; rw [hvali]; exact hTi
      · rw [hval j hji]
        exact hE j _ w w' (hT j hj (((hon j).1 hjl).resolve_left hji)) hEE
    · intro j d hjd hjn
      have hji : j ≠ i := fun h => hjn ((hon j).2 (.inl h))
      rw [← hold j d hjd (fun h => hjn ((hon j).2 (.inr h)))]
      cases hd : ops[i].dst with
      | none => rfl
      | some di => exact getD_put_other a di d v (apart_of ha (i := i) (j := j) (by rw [hopi]; exact hd) hjd (fun h => hji h.symm))
    · intro j k hwjk hjl
      rcases (hon j).1 hjl with h | h
      · subst h
        obtain ⟨o, ho', e, he, hb, hek⟩ := hwjk
        rw [hopi] at ho'
        cases ho'
        rw [← hek]
        exact (hon _).2 (.inr (hde e he hb))
      · exact (hon k).2 (.inr (hw j k hwjk h))
    · omega
    · omega

/-- One statement an operation. -/
def Steps (C : Nat → Oper → Prop) : Nat → List Oper → Prop
  | _, [] => True
  | k, o :: os => C k o ∧ Steps C (k + 1) os
theorem Steps.all {C : Nat → Oper → Prop} (l : List Oper) : ∀ k, Steps C k l → ∀ i o, l[i]? = some o → C (k + i) o := by
  induction l with
  | nil => intro k _ i o e; cases e
  | cons x os ih =>
    intro k h i o e
    cases i with
    | zero => cases e; exact h.1
    | succ i =>
      have := ih (k + 1) h.2 i o (by simpa using e)
      rw [show k + (i + 1) = k + 1 + i from by omega]; exact this

/-- What is to be shown of one operation. -/
def Step (P : Program) (ops : Array Oper) (Q : Exit → Act → World → Prop) (T : Nat → Value → World → Prop) (R : Nat → World → Prop) (E : World → World → Prop) (a0 : Act) (i : Nat) (o : Oper) : Prop :=
  ∀ a w k, k < ops.size → Like ops a0 a → R k w → (∀ e, e ∈ o.after → Region.binds .any e = true → T e.on (val ops a e.on) w) →
    (∀ (j : Nat) (d : Tmp), (ops[j]?).bind (·.dst) = some d → waits .any ops j i → a.tmps.getD d undef = a0.tmps.getD d undef) →
    wpOp P ops Q i (fun a' w' => ∃ v, a' = a.put o.dst v ∧ T i (got o v) w' ∧ R (k + 1) w' ∧ E w w') a w

/-- A region that draws its order: each operation by itself, whatever the order is. -/
theorem wp_region_typed {P : Program} {id : Nat} {ops : Array Oper} {Q : Exit → Act → World → Prop} {a0 : Act} {w0 : World}
    (T : Nat → Value → World → Prop) (R : Nat → World → Prop) (E : World → World → Prop)
    (hm : P.follows .mixedOrders = true) (ho : ordered .any ops = true) (ha : apartDsts ops = true)
    (hsz : ((List.range ops.size).all fun i => match (ops[i]?).bind (·.dst) with | some d => decide (d < a0.tmps.size) | none => true) = true)
    (hE : ∀ j v w w', T j v w → E w w' → T j v w') (hR : R 0 w0.drew)
    (hstep : Steps (Step P ops Q T R E a0) 0 ops.toList)
    (hdone : ∀ a w k, k ≤ ops.size → Like ops a0 a → R k w → (∀ i, i < ops.size → T i (val ops a i) w) → Q .normal a w) :
    (Code.region id ops true).wp P Q a0 w0 := by
  refine wp_region_any hm ?_
  have hsz' : ∀ (i : Nat) (d : Tmp), (ops[i]?).bind (·.dst) = some d → d < a0.tmps.size := by
    intro i d hd
    have li : i < ops.size := by
      apply Nat.lt_of_not_le; intro hc; rw [Array.getElem?_eq_none hc] at hd; cases hd
    rw [List.all_eq_true] at hsz
    have := hsz i (List.mem_range.2 li)
    rw [hd] at this
    simpa using this
  have hnone : ∀ i, ¬ on (Array.replicate ops.size false) i := by
    intro i
    unfold on
    rw [Array.getD_eq_getD_getElem?, Array.getElem?_replicate]
    split <;> simp
  refine wpAny_typed T R E hE a0 ho ha hsz' ?_ hdone ops.size 0 _ a0 _ (by simp) ⟨rfl, rfl, fun _ _ => rfl⟩ hR (fun i _ h => absurd h (hnone i)) (fun _ _ _ _ => rfl) (fun j i _ h => absurd h (hnone j)) ?_ ?_
  · intro i o hi
    have := Steps.all _ _ hstep i o (by rw [Array.getElem?_toList]; exact hi)
    rw [Nat.zero_add] at this
    exact this
  · have := List.length_filter_le (fun i => !(Array.replicate ops.size false).getD i true) (List.range ops.size)
    rw [List.length_range] at this; exact this
  · have := List.length_filter_le (fun i => !(Array.replicate ops.size false).getD i true) (List.range ops.size)
    rw [List.length_range] at this; omega

/-- The slots from k on hold these values. -/
def Holds (a : Act) : Nat → List Value → Prop
  | _, [] => True
  | k, v :: vs => a.tmps.getD k undef = v ∧ Holds a (k + 1) vs
theorem Holds.at {a : Act} (l : List Value) : ∀ k, Holds a k l → ∀ i, i < l.length → a.tmps.getD (k + i) undef = l.getD i undef := by
  induction l with
  | nil => intro k _ i hi; simp at hi
  | cons v vs ih =>
    intro k h i hi
    cases i with
    | zero => simpa using h.1
    | succ i =>
      have := ih (k + 1) h.2 i (by simpa using hi)
      rw [show k + (i + 1) = k + 1 + i from by omega, this]; simp
/-- A frame whose slots are all known is written out. -/
theorem act_ext (a : Act) (l : List Value) (hd : a.defers = []) (hs : a.tmps.size = l.length) (h : Holds a 0 l) : a = ⟨l.toArray, []⟩ := by
  obtain ⟨ts, ds⟩ := a
  simp only at hd hs
  subst hd
  congr 1
  apply Array.ext
  · simpa using hs
  · intro i h1 h2
    have := h.at l 0 i (by omega)
    rw [Nat.zero_add] at this
    simp only [Array.getD_eq_getD_getElem?, Array.getElem?_eq_getElem h1, Option.getD_some] at this
    rw [this]
    have h3 : i < l.length := by omega
    rw [List.getElem_toArray, List.getD_eq_getElem?_getD, List.getElem?_eq_getElem h3]
    rfl

end Go.Fxr

