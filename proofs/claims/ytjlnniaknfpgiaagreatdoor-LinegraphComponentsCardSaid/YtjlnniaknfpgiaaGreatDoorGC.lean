/-
  Part GC of this claim's proof. Joined by merge.py from the texts of wip/tpl.
-/
import Derived.Test.YtjlnniaknfpgiaaGreatDoorGA
import Derived.OrdersHeld
import Derived.Deep.AppendLies
import Derived.Deep.OwnRows
import Derived.Deep.LoopGhost
import Derived.Deep.DeepCutAuto
set_option linter.unusedVariables false
set_option linter.unusedSimpArgs false
set_option linter.unnecessarySimpa false
namespace Go.Proofs.Lg
open Go Go.RowKit
section
variable {P : Program} {ops : Array Oper} {Q : Exit → Act → World → Prop} {C : World → Prop}

/-- Operation ex waits for operation i. -/
def waits (ops : Array Oper) (ex i : Nat) : Bool :=
  match ops[ex]? with
  | some o => o.after.any fun e => Region.binds .any e && e.on == i
  | none => true

theorem waits_ready {ex i : Nat} {listed : Array Bool} (h : waits ops ex i = true) (hun : listed.getD i true = false) : ex ∉ Region.ready .any ops listed := by
  intro hr
  obtain ⟨_, o, ho, hall⟩ := mem_ready.1 hr
  unfold waits at h
  simp only [ho] at h
  obtain ⟨e, he, hb⟩ := Array.any_eq_true'.1 h
  simp only [Bool.and_eq_true, beq_iff_eq] at hb
  have h1 := hall e he hb.1
  rw [hb.2] at h1
  rcases Nat.lt_or_ge i listed.size with h' | h'
  · simp [h'] at hun h1; rw [hun] at h1; cases h1
  · simp [Array.getElem?_eq_none h'] at h1

/-- Whatever order is picked; C holds behind every operation but number ex. -/
def wpE (P : Program) (ops : Array Oper) (Q : Exit → Act → World → Prop) (C : World → Prop) (ex : Nat) : Nat → Array Bool → Act → World → Prop
  | 0, listed, a, w => Region.ready .any ops listed = [] ∧ Q .normal a w
  | f + 1, listed, a, w => (Region.ready .any ops listed = [] → Q .normal a w) ∧
    ∀ i ∈ Region.ready .any ops listed, wpOp P ops Q i (fun a' w' => (i = ex ∨ C w') ∧ wpE P ops Q C ex f (listed.setIfInBounds i true) a' w') a w

theorem wpAny_of_E {ex : Nat} : ∀ (f : Nat) (listed : Array Bool) (a : Act) (w : World), wpE P ops Q C ex f listed a w → wpAny P .any ops Q f listed a w
  | 0, _, _, _, h => h
  | f + 1, _, _, _, h => ⟨h.1, fun i hi => wpOp_mono (fun a' w' h' => wpAny_of_E f _ a' w' h'.2) (h.2 i hi)⟩

theorem wpE_first {ex i : Nat} {oi : Oper} {v : Value} (hi : ops[i]? = some oi) (hsel : ∀ (j : Nat) (o : Oper) cs b, ops[j]? = some o → o.op ≠ .select cs b)
    (hQ : ∀ c a w, Q (.panic c) (a.put oi.dst v) w → Q (.panic c) a w) (hex : waits ops ex i = true ∨ i = ex) :
    ∀ (f : Nat) (listed : Array Bool) (a : Act) (w : World),
      (∀ j oj, ops[j]? = some oj → j ≠ i → listed.getD j true = false → (∀ e ∈ oj.after, Region.binds .any e = true → e.on ≠ i) → oi.apart ops oj = true) →
      i ∈ Region.ready .any ops listed → YieldsIf P ops C oi v a → C w →
      wpE P ops Q C ex f (listed.setIfInBounds i true) (a.put oi.dst v) w → wpE P ops Q C ex (f + 1) listed a w := by
  intro f
  induction f with
  | zero =>
    intro listed a w _ hr hy hC H
    refine ⟨fun h => (by rw [h] at hr; cases hr), fun j hj => ?_⟩
    by_cases hji : j = i
    · subst hji; exact hy.wpOp hi hC ⟨.inr hC, H⟩
    · have := ready_mono hj hji
      rw [H.1] at this
      cases this
  | succ f ih =>
    intro listed a w hfree hr hy hC H
    have hun := (mem_ready.1 hr).1
    refine ⟨fun h => (by rw [h] at hr; cases hr), fun j hj => ?_⟩
    by_cases hji : j = i
    · subst hji; exact hy.wpOp hi hC ⟨.inr hC, H⟩
    · have hjex : j ≠ ex := by
        rintro rfl
        rcases hex with h | h
        · exact waits_ready h hun hj
        · exact hji h.symm
      have h1 := H.2 j (ready_mono hj hji)
      obtain ⟨hjun, oj, hoj, hall⟩ := mem_ready.1 hj
      have hnot : ∀ e ∈ oj.after, Region.binds .any e = true → e.on ≠ i := fun e he hb heq => by
        have h1 := hall e he hb
        rw [heq] at h1
        rcases Nat.lt_or_ge i listed.size with h' | h'
        · simp [h'] at hun h1; rw [hun] at h1; cases h1
        · simp [Array.getElem?_eq_none h'] at h1
      have h2 := wpOp_putIf hoj (hfree j oj hoj hji hjun hnot) (fun cs b => hsel i oi cs b hi) (fun cs b => hsel j oj cs b hoj) hQ hy h1
      have hfree' : ∀ k ok, ops[k]? = some ok → k ≠ i → (listed.setIfInBounds j true).getD k true = false →
          (∀ e ∈ ok.after, Region.binds .any e = true → e.on ≠ i) → oi.apart ops ok = true := fun k ok hk hki hun hno => by
        refine hfree k ok hk hki ?_ hno
        by_cases hjk : j = k
        · subst hjk; exact hjun
        · rw [getD_set_ne true hjk] at hun; exact hun
      refine wpOp_mono (fun a' w' h3 => ?_) h2
      have hC' : C w' := h3.2.1.resolve_left hjex
      refine ⟨.inr hC', ih (listed.setIfInBounds j true) a' w' hfree' (ready_mono hr (Ne.symm hji)) h3.1 hC' ?_⟩
      rw [Array.setIfInBounds_comm _ _ hji]
      exact h3.2.2

/-- The static check of an order: (number, is it pure?). -/
def ordB (ops : Array Oper) (ex : Nat) : List (Nat × Bool) → Array Bool → Bool
  | [], listed => (Region.ready .any ops listed).isEmpty
  | (i, true) :: rest, listed => (Region.ready .any ops listed).contains i && Region.free .any ops listed i && waits ops ex i && ordB ops ex rest (listed.setIfInBounds i true)
  | (i, false) :: rest, listed => decide (Region.ready .any ops listed = [i]) && (i != ex || rest.isEmpty) && ordB ops ex rest (listed.setIfInBounds i true)

/-- The walk in that order. -/
def wpOrd (P : Program) (ops : Array Oper) (Q : Exit → Act → World → Prop) (C : World → Prop) (ex : Nat) : List (Nat × Bool) → Act → World → Prop
  | [], a, w => Q .normal a w
  | (i, true) :: rest, a, w => ∃ o, ops[i]? = some o ∧ (∀ v c a w, Q (.panic c) (a.put o.dst v) w → Q (.panic c) a w) ∧ ∃ v, YieldsIf P ops C o v a ∧ wpOrd P ops Q C ex rest (a.put o.dst v) w
  | (i, false) :: rest, a, w => wpOp P ops Q i (fun a' w' => (i = ex ∨ C w') ∧ wpOrd P ops Q C ex rest a' w') a w

theorem wpE_ord {ex : Nat} (hs : Region.noSelect ops = true) : ∀ (ord : List (Nat × Bool)) (listed : Array Bool) (a : Act) (w : World), ordB ops ex ord listed = true → (ord = [] ∨ C w) →
    wpOrd P ops Q C ex ord a w → wpE P ops Q C ex ord.length listed a w
  | [], _, _, _, hB, _, h => ⟨by simpa [ordB] using hB, h⟩
  | (i, true) :: rest, listed, a, w, hB, hC, h => by
    simp only [ordB, Bool.and_eq_true] at hB
    obtain ⟨⟨⟨hr, hf⟩, hw⟩, hB'⟩ := hB
    obtain ⟨o, ho, hQ, v, hy, hK⟩ := h
    have hCw : C w := hC.resolve_left (by simp)
    exact wpE_first ho (Region.noSelect_spec hs) (hQ v) (.inl hw) rest.length listed a w (Region.free_spec ho hf) (by simpa using hr) hy hCw (wpE_ord hs rest _ _ _ hB' (.inr hCw) hK)
  | (i, false) :: rest, listed, a, w, hB, hC, h => by
    simp only [ordB, Bool.and_eq_true, decide_eq_true_eq] at hB
    obtain ⟨⟨hr, he⟩, hB'⟩ := hB
    refine ⟨fun h0 => (by rw [h0] at hr; cases hr), fun j hj => ?_⟩
    rw [hr] at hj
    obtain rfl : j = i := by simpa using hj
    refine wpOp_mono (fun a' w' h' => ⟨h'.1, wpE_ord hs rest _ a' w' hB' ?_ h'.2⟩) h
    rcases h'.1 with h1 | h1
    · subst h1; left; simpa using he
    · exact .inr h1

/-- The theorem. -/
theorem wp_region_ord {id : Nat} {a : Act} {w : World} {l : List Oper} (C : World → Prop) (ex : Nat) (ord : List (Nat × Bool)) (hm : P.follows .mixedOrders = true)
    (hB : (Region.noSelect l.toArray && decide (ord.length = l.length) && ordB l.toArray ex ord (Array.replicate l.length false)) = true) (hC : C w.drew)
    (h : wpOrd P l.toArray Q C ex ord a w.drew) : (Code.region id l.toArray true).wp P Q a w := by
  simp only [Bool.and_eq_true, decide_eq_true_eq] at hB
  obtain ⟨⟨hs, hn⟩, hB⟩ := hB
  refine wp_region_any hm (wpAny_of_E (C := C) (ex := ex) _ _ _ _ ?_)
  have := wpE_ord hs ord _ a w.drew hB (.inr hC) h
  rw [hn] at this
  simpa using this

theorem wpOrd_nil {ex : Nat} {a : Act} {w : World} (h : Q .normal a w) : wpOrd P ops Q C ex [] a w := h

/-- One operation that reads; what follows behind a variable. -/
theorem wpOrd_pure {ex i : Nat} {o : Oper} {rest : List (Nat × Bool)} {a : Act} {w : World} (hi : ops[i]? = some o) (hQ : ∀ v c a w, Q (.panic c) (a.put o.dst v) w → Q (.panic c) a w) (hg : o.guard = none)
    (h : ∀ K : Act → Prop, (∀ a, wpOrd P ops Q C ex rest a w → K a) → ∃ v, (∀ p : Cls C, (execOp a.eval o).run P p.w = .ok (.value v) p.w) ∧ K (a.put o.dst v)) : wpOrd P ops Q C ex ((i, true) :: rest) a w := by
  obtain ⟨v, h1, h2⟩ := h _ (fun _ h => h)
  exact ⟨o, hi, hQ, v, .inl ⟨by simp [Region.wanted, hg], fun w' hw' => h1 ⟨w', hw'⟩⟩, h2⟩

/-- One operation that writes, makes memory or calls. -/
theorem wpOrd_eff {ex i : Nat} {o : Oper} {rest : List (Nat × Bool)} {a : Act} {w : World} (hi : ops[i]? = some o) (hg : o.guard = none)
    (h : ∀ K : Act → World → Prop, (∀ a' w', (i = ex ∨ C w') → wpOrd P ops Q C ex rest a' w' → K a' w') → o.wp P a w K Q) : wpOrd P ops Q C ex ((i, false) :: rest) a w := by
  show wpOp P ops Q i _ a w
  unfold wpOp
  simp only [hi]
  rw [if_pos (by simp [Region.wanted, hg])]
  exact .inl (h _ fun a' w' h1 h2 => ⟨h1, h2⟩)

/-- The region, its orders still open: for a region in which two effects do not wait for one another. -/
theorem wp_region_E {id : Nat} {a : Act} {w : World} {l : List Oper} (C : World → Prop) (ex : Nat) (hm : P.follows .mixedOrders = true)
    (h : wpE P l.toArray Q C ex l.length (Array.replicate l.length false) a w.drew) : (Code.region id l.toArray true).wp P Q a w :=
  wp_region_any hm (wpAny_of_E (C := C) (ex := ex) _ _ _ _ (by simpa using h))

theorem wpE_pure {ex f i : Nat} {o : Oper} {listed : Array Bool} {a : Act} {w : World} (hi : ops[i]? = some o)
    (hB : (Region.noSelect ops && (Region.ready .any ops listed).contains i && Region.free .any ops listed i && waits ops ex i) = true)
    (hQ : ∀ v c a w, Q (.panic c) (a.put o.dst v) w → Q (.panic c) a w) (hg : o.guard = none) (hC : C w)
    (h : ∀ K : Act → Prop, (∀ a, wpE P ops Q C ex f (listed.setIfInBounds i true) a w → K a) → ∃ v, (∀ p : Cls C, (execOp a.eval o).run P p.w = .ok (.value v) p.w) ∧ K (a.put o.dst v)) : wpE P ops Q C ex (f + 1) listed a w := by
  simp only [Bool.and_eq_true] at hB
  obtain ⟨⟨⟨hs, hr⟩, hf⟩, hw⟩ := hB
  obtain ⟨v, h1, h2⟩ := h _ (fun _ h => h)
  exact wpE_first hi (Region.noSelect_spec hs) (hQ v) (.inl hw) f listed a w (Region.free_spec hi hf) (by simpa using hr) (.inl ⟨by simp [Region.wanted, hg], fun w' hw' => h1 ⟨w', hw'⟩⟩) hC h2

theorem wpE_one {ex f i : Nat} {o : Oper} {listed : Array Bool} {a : Act} {w : World} (hi : ops[i]? = some o) (hB : decide (Region.ready .any ops listed = [i]) = true) (hg : o.guard = none)
    (h : ∀ K : Act → World → Prop, (∀ a' w', (i = ex ∨ C w') → wpE P ops Q C ex f (listed.setIfInBounds i true) a' w' → K a' w') → o.wp P a w K Q) : wpE P ops Q C ex (f + 1) listed a w := by
  have hr := of_decide_eq_true hB
  refine ⟨fun h0 => (by rw [h0] at hr; cases hr), fun j hj => ?_⟩
  rw [hr] at hj
  obtain rfl : j = i := by simpa using hj
  unfold wpOp
  simp only [hi]
  rw [if_pos (by simp [Region.wanted, hg])]
  exact .inl (h _ fun a' w' h1 h2 => ⟨h1, h2⟩)

theorem wpE_two {ex f i j : Nat} {o o' : Oper} {listed : Array Bool} {a : Act} {w : World} (hi : ops[i]? = some o) (hj : ops[j]? = some o') (hB : decide (Region.ready .any ops listed = [i, j]) = true) (hg : o.guard = none) (hg' : o'.guard = none)
    (h : ∀ K : Act → World → Prop, (∀ a' w', (i = ex ∨ C w') → wpE P ops Q C ex f (listed.setIfInBounds i true) a' w' → K a' w') → o.wp P a w K Q)
    (h' : ∀ K : Act → World → Prop, (∀ a' w', (j = ex ∨ C w') → wpE P ops Q C ex f (listed.setIfInBounds j true) a' w' → K a' w') → o'.wp P a w K Q) : wpE P ops Q C ex (f + 1) listed a w := by
  have hr := of_decide_eq_true hB
  refine ⟨fun h0 => (by rw [h0] at hr; cases hr), fun k hk => ?_⟩
  rw [hr] at hk
  simp only [List.mem_cons, List.not_mem_nil, or_false] at hk
  unfold wpOp
  rcases hk with rfl | rfl
  · simp only [hi]
    rw [if_pos (by simp [Region.wanted, hg])]
    exact .inl (h _ fun a' w' h1 h2 => ⟨h1, h2⟩)
  · simp only [hj]
    rw [if_pos (by simp [Region.wanted, hg'])]
    exact .inl (h' _ fun a' w' h1 h2 => ⟨h1, h2⟩)

theorem wpE_done {ex : Nat} {listed : Array Bool} {a : Act} {w : World} (hB : decide (Region.ready .any ops listed = []) = true) (h : Q .normal a w) : wpE P ops Q C ex 0 listed a w :=
  ⟨of_decide_eq_true hB, h⟩
end
end Go.Proofs.Lg

namespace Go.Proofs.Lg
open Go Go.RowKit

/-- A slice of slices lies in memory. -/
def SlOf (w : World) (v : Value) (rows : List (List Value)) : Prop :=
  ∃ vs : List Value, SlAt w v vs ∧ vs.length = rows.length ∧ ∀ (i : Nat) (u : Value) (r : List Value), vs[i]? = some u → rows[i]? = some r → SlAt w u r

theorem SlOf.below {w w' : World} {v : Value} {rows : List (List Value)} (h : SlOf w v rows) (hb : Below w.heap.size w w') : SlOf w' v rows := by
  obtain ⟨vs, h1, h2, h3⟩ := h
  exact ⟨vs, h1.below hb, h2, fun i u r hu hr => (h3 i u r hu hr).below hb⟩

/-- A slice of slices of the call's own: its cells fill block O; each row is owned; no two rows lie in one block. -/
def RowsOwn (w : World) (base O te ti : Nat) (rows : List (List Value)) : Prop :=
  ∃ vs : List Value, vs.length = rows.length ∧ w.heap[O]? = some (.cells vs.toArray te (0, 0)) ∧ base ≤ O ∧
    (∀ (i : Nat) (u : Value) (r : List Value), vs[i]? = some u → rows[i]? = some r → w.ownsRow base ti 1 u r.length r ∧ u.ownBlock ≠ some O) ∧
    (∀ (i j : Nat) (u u' : Value), vs[i]? = some u → vs[j]? = some u' → i ≠ j → u.ownBlock = none ∨ u.ownBlock ≠ u'.ownBlock)

theorem ownsRow_slAt {w : World} {base e n : Nat} {v : Value} {xs : List Value} (h : w.ownsRow base e 1 v n xs) : SlAt w v xs := by
  obtain ⟨hl, h2⟩ := h
  have hn : xs.length = n := by simpa using hl
  rcases h2 with ⟨rfl, rfl⟩ | ⟨g, cap, cur, rfl, _, hg, hnc, hcm, hcs, ht⟩
  · obtain rfl : xs = [] := List.eq_nil_of_length_eq_zero hn
    exact SlAt.nil w
  · refine SlAt.mk hn hnc (by unfold maxLen at hcm; omega) fun i u hu => ?_
    rw [Nat.zero_add, cell_of_row w g i cur e (0, 0) hg]
    rw [← ht, List.getElem?_take] at hu
    split at hu
    · simpa using hu
    · cases hu

theorem ownsRow_below {w w' : World} {base e size n : Nat} {v : Value} {xs : List Value} (h : w.ownsRow base e size v n xs) (hb : Below w.heap.size w w') : w'.ownsRow base e size v n xs := by
  obtain ⟨hl, h2⟩ := h
  refine ⟨hl, ?_⟩
  rcases h2 with h2 | ⟨g, cap, cur, hv, hbg, hg, rest⟩
  · exact .inl h2
  · exact .inr ⟨g, cap, cur, hv, hbg, by rw [hb.block g (Array.getElem?_eq_some_iff.1 hg).1]; exact hg, rest⟩

theorem heap_below {w w' : World} (hb : Below w.heap.size w w') {O : Nat} {o : Obj} (h : w.heap[O]? = some o) : w'.heap[O]? = some o := by
  rw [hb.block O (Array.getElem?_eq_some_iff.1 h).1]; exact h

theorem RowsOwn.below {w w' : World} {base O te ti : Nat} {rows : List (List Value)} (h : RowsOwn w base O te ti rows) (hb : Below w.heap.size w w') : RowsOwn w' base O te ti rows := by
  obtain ⟨vs, h1, h2, h3, h4, h5⟩ := h
  exact ⟨vs, h1, heap_below hb h2, h3, fun i u r hu hr => ⟨ownsRow_below (h4 i u r hu hr).1 hb, (h4 i u r hu hr).2⟩, h5⟩

theorem heap_setCell_same {w : World} {O k : Nat} {C : Array Value} {t : TypeId} {f : Nat × Nat} (h : w.heap[O]? = some (.cells C t f)) (v : Value) :
    (w.setCell ⟨O, k, none⟩ v).heap[O]? = some (.cells (C.setIfInBounds k v) t f) := by
  simp [World.setCell, Array.getElem?_modify, h]

theorem cell_of_heap {w : World} {O k : Nat} {C : Array Value} {t : TypeId} {f : Nat × Nat} (h : w.heap[O]? = some (.cells C t f)) : w.cell? ⟨O, k, none⟩ = C[k]? := by
  simp [World.cell?, h]
theorem frozen_of_heap {w : World} {O k : Nat} {C : Array Value} {t : TypeId} (h : w.heap[O]? = some (.cells C t (0, 0))) : w.frozen? ⟨O, k, none⟩ = false := by
  simp [World.frozen?, h]

/-- The rows as a slice that is read. -/
theorem RowsOwn.slOf {w : World} {base O te ti : Nat} {rows : List (List Value)} (h : RowsOwn w base O te ti rows) (n : Nat) (hn : rows.length = n) (hm : n ≤ 9223372036854775807) :
    SlOf w (.slice (some ⟨O, 0, none⟩) n n) rows := by
  obtain ⟨vs, h1, h2, h3, h4, h5⟩ := h
  refine ⟨vs, SlAt.mk (by omega) (Nat.le_refl _) hm fun i u hu => ?_, h1, fun i u r hu hr => ownsRow_slAt (h4 i u r hu hr).1⟩
  rw [Nat.zero_add, cell_of_heap h2]
  simpa using hu

/-- The start: all rows are nil. -/
theorem RowsOwn.made (w : World) (base te ti n : Nat) (C : Array Value) (hC : C = (List.replicate n (Value.slice none 0 0)).toArray) (hb : base ≤ w.heap.size) :
    RowsOwn (w.alloc (.cells C te)) base w.heap.size te ti (List.replicate n []) := by
  subst hC
  refine ⟨List.replicate n (Value.slice none 0 0), by simp, heap_alloc_new w _, hb, fun i u r hu hr => ?_, fun i j u u' hu hu' _ => ?_⟩
  · rw [List.getElem?_replicate] at hu hr
    by_cases hin : i < n
    · simp only [hin, if_true, Option.some.injEq] at hu hr
      subst hu; subst hr
      exact ⟨World.ownsRow_nil _ _ _ _, by simp [Value.ownBlock]⟩
    · simp [hin] at hu
  · rw [List.getElem?_replicate] at hu
    split at hu <;> simp at hu
    subst hu
    left; rfl

/-- What is known of row k. -/
theorem RowsOwn.row {w : World} {base O te ti : Nat} {rows : List (List Value)} (h : RowsOwn w base O te ti rows) {k : Nat} {r : List Value} (hr : rows[k]? = some r) :
    ∃ u, w.cell? ⟨O, k, none⟩ = some u ∧ w.frozen? ⟨O, k, none⟩ = false ∧ w.ownsRow base ti 1 u r.length r ∧ u.ownBlock ≠ some O := by
  obtain ⟨vs, h1, h2, h3, h4, h5⟩ := h
  have hk : k < vs.length := by have := (List.getElem?_eq_some_iff.1 hr).1; omega
  have hu : vs[k]? = some vs[k] := List.getElem?_eq_getElem hk
  exact ⟨vs[k], by rw [cell_of_heap h2]; simp, frozen_of_heap h2, h4 k _ r hu hr⟩

/-- One row is appended to, and stored back. -/
theorem RowsOwn.step {w w1 : World} {base O te ti : Nat} {rows : List (List Value)} (h : RowsOwn w base O te ti rows) {k : Nat} {r r' : List Value} (hr : rows[k]? = some r)
    {u : Value} (hu : w.cell? ⟨O, k, none⟩ = some u) {g c n : Nat} (hn : r'.length = n) (hown : w1.ownsRow base ti 1 (.slice (some ⟨g, 0, none⟩) n c) n r') (hgrow : w.grownBy w1 u.ownBlock)
    (hat : u.ownBlock = some g ∨ g = w.heap.size) : RowsOwn (w1.setCell ⟨O, k, none⟩ (.slice (some ⟨g, 0, none⟩) n c)) base O te ti (rows.set k r') := by
  subst hn
  obtain ⟨vs, h1, h2, h3, h4, h5⟩ := h
  have hkl : k < rows.length := (List.getElem?_eq_some_iff.1 hr).1
  have hvu : vs[k]? = some u := by rw [cell_of_heap h2] at hu; simpa using hu
  have hO : O < w.heap.size := (Array.getElem?_eq_some_iff.1 h2).1
  have hk := h4 k u r hvu hr
  have h2' : w1.heap[O]? = some (.cells vs.toArray te (0, 0)) := by rw [hgrow.block O hO (fun e => hk.2 e.symm)]; exact h2
  have hgO : g ≠ O := by
    rintro rfl
    rcases hat with e | e
    · exact hk.2 e
    · omega
  -- a row that owned its block ahead of the append owns it behind the store
  have keep : ∀ (i : Nat) (u' : Value) (q : List Value), i ≠ k → vs[i]? = some u' → rows[i]? = some q → (w1.setCell ⟨O, k, none⟩ (.slice (some ⟨g, 0, none⟩) r'.length c)).ownsRow base ti 1 u' q.length q ∧ u'.ownBlock ≠ some O ∧ (u'.ownBlock = none ∨ u'.ownBlock ≠ some g) := by
    intro i u' r'' hi hu' hr''
    have hi4 := h4 i u' r'' hu' hr''
    have hne := h5 i k u' u hu' hvu hi
    have k1 := hi4.1.kept hgrow hne
    refine ⟨?_, hi4.2, ?_⟩
    · obtain ⟨l1, l2⟩ := k1
      refine ⟨l1, ?_⟩
      rcases l2 with l2 | ⟨g', cap, cur, hv, hbg, hh, rest⟩
      · exact .inl l2
      · refine .inr ⟨g', cap, cur, hv, hbg, ?_, rest⟩
        rw [Below.heap_setCell _ _ _ _ (by intro e; apply hi4.2; rw [hv]; show some g' = some O; rw [e])]
        exact hh
    · rcases hne with e | e
      · exact .inl e
      · rcases hat with e2 | e2
        · right; rw [← e2]; exact e
        · subst e2
          right
          intro e3
          have := (hi4.1.lt _ e3).2
          omega
  refine ⟨vs.set k (.slice (some ⟨g, 0, none⟩) r'.length c), by simp [h1], ?_, h3, fun i u' r'' hu' hr'' => ?_, fun i j u1 u2 hu1 hu2 hij => ?_⟩
  · rw [heap_setCell_same h2']; simp
  · by_cases hi : k = i
    · subst hi
      rw [List.getElem?_set_self (by omega)] at hu' hr''
      obtain rfl := Option.some.inj hu'
      obtain rfl := Option.some.inj hr''
      refine ⟨?_, by simp [Value.ownBlock, hgO]⟩
      obtain ⟨l1, l2⟩ := hown
      refine ⟨l1, ?_⟩
      rcases l2 with l2 | ⟨g', cap, cur, hv, hbg, hh, rest⟩
      · exact .inl l2
      · refine .inr ⟨g', cap, cur, hv, hbg, ?_, rest⟩
        have : g' = g := by have := congrArg Value.ownBlock hv; simp [Value.ownBlock] at this; exact this.symm
        subst this
        rw [Below.heap_setCell _ _ _ _ hgO]
        exact hh
    · rw [List.getElem?_set_ne hi] at hu' hr''
      exact ⟨(keep i u' r'' (Ne.symm hi) hu' hr'').1, (keep i u' r'' (Ne.symm hi) hu' hr'').2.1⟩
  · have hlen : ∀ i u', vs[i]? = some u' → ∃ r', rows[i]? = some r' := fun i u' h => by
      have := (List.getElem?_eq_some_iff.1 h).1
      exact ⟨_, List.getElem?_eq_getElem (by omega)⟩
    by_cases hi : k = i
    · subst hi
      rw [List.getElem?_set_self (by omega)] at hu1
      rw [List.getElem?_set_ne hij] at hu2
      obtain rfl := Option.some.inj hu1
      obtain ⟨r2, hr2⟩ := hlen j u2 hu2
      have := (keep j u2 r2 (Ne.symm hij) hu2 hr2).2.2
      right
      rcases this with e | e
      · rw [e]; simp [Value.ownBlock]
      · exact fun e' => e e'.symm
    · rw [List.getElem?_set_ne hi] at hu1
      by_cases hj : k = j
      · subst hj
        rw [List.getElem?_set_self (by omega)] at hu2
        obtain rfl := Option.some.inj hu2
        obtain ⟨r1, hr1⟩ := hlen i u1 hu1
        exact (keep i u1 r1 hij hu1 hr1).2.2
      · rw [List.getElem?_set_ne hj] at hu2
        exact h5 i j u1 u2 hu1 hu2 hij

theorem SlAt.setCell {w : World} {v : Value} {xs : List Value} (h : SlAt w v xs) {p : Addr} (hne : v.ownBlock ≠ some p.block) (u : Value) : SlAt (w.setCell p u) v xs := by
  obtain ⟨a, c, hv, h1, h2, h3⟩ := h
  refine ⟨a, c, hv, h1, h2, fun hx => ?_⟩
  obtain ⟨b, off, ha, hc⟩ := h3 hx
  refine ⟨b, off, ha, fun i y hy => ?_⟩
  have hb : b ≠ p.block := by
    intro e; apply hne; rw [hv, ha, e]; rfl
  rw [World.cell?_of_block (w := w) (Below.heap_setCell w p u b hb)]
  exact hc i y hy

/-! ### Where a slice's cells lie -/

/-- A slice whose cells lie in a block with ok. -/
def SlAtP (ok : Nat → Prop) (w : World) (v : Value) (xs : List Value) : Prop :=
  ∃ a c, v = .slice a xs.length c ∧ xs.length ≤ c ∧ c ≤ 9223372036854775807 ∧
    (xs ≠ [] → ∃ b off, a = some ⟨b, off, none⟩ ∧ ok b ∧ ∀ i u, xs[i]? = some u → w.cell? ⟨b, off + i, none⟩ = some u)

theorem SlAtP.slAt {ok : Nat → Prop} {w : World} {v : Value} {xs : List Value} (h : SlAtP ok w v xs) : SlAt w v xs := by
  obtain ⟨a, c, h1, h2, h3, h4⟩ := h
  exact ⟨a, c, h1, h2, h3, fun hx => let ⟨b, off, e1, _, e2⟩ := h4 hx; ⟨b, off, e1, e2⟩⟩

theorem SlAt.slAtP {w : World} {v : Value} {xs : List Value} (h : SlAt w v xs) : SlAtP (fun b => b < w.heap.size) w v xs := by
  obtain ⟨a, c, h1, h2, h3, h4⟩ := h
  refine ⟨a, c, h1, h2, h3, fun hx => ?_⟩
  obtain ⟨b, off, e1, e2⟩ := h4 hx
  refine ⟨b, off, e1, ?_, e2⟩
  cases xs with
  | nil => exact absurd rfl hx
  | cons x xs => exact cell_lt (e2 0 x rfl)

theorem SlAt.slAtP_of {w : World} {v : Value} {xs : List Value} (h : SlAt w v xs) {ok : Nat → Prop} (hok : ∀ k, v.ownBlock = some k → ok k) : SlAtP ok w v xs := by
  obtain ⟨a, c, h1, h2, h3, h4⟩ := h
  refine ⟨a, c, h1, h2, h3, fun hx => ?_⟩
  obtain ⟨b, off, e1, e2⟩ := h4 hx
  exact ⟨b, off, e1, hok b (by rw [h1, e1]; rfl), e2⟩

theorem SlAtP.mono {ok ok' : Nat → Prop} {w : World} {v : Value} {xs : List Value} (h : SlAtP ok w v xs) (hk : ∀ b, ok b → ok' b) : SlAtP ok' w v xs := by
  obtain ⟨a, c, h1, h2, h3, h4⟩ := h
  exact ⟨a, c, h1, h2, h3, fun hx => let ⟨b, off, e1, e3, e2⟩ := h4 hx; ⟨b, off, e1, hk b e3, e2⟩⟩

theorem SlAtP.stays {ok : Nat → Prop} {w w' : World} {v : Value} {xs : List Value} (h : SlAtP ok w v xs) (hw : ∀ b, ok b → b < w.heap.size → w'.heap[b]? = w.heap[b]?) : SlAtP ok w' v xs := by
  obtain ⟨a, c, h1, h2, h3, h4⟩ := h
  refine ⟨a, c, h1, h2, h3, fun hx => ?_⟩
  obtain ⟨b, off, e1, e3, e2⟩ := h4 hx
  exact ⟨b, off, e1, e3, fun i u hu => (World.cell?_of_block (w := w) (hw b e3 (cell_lt (e2 i u hu)))).trans (e2 i u hu)⟩

def SlOfP (ok : Nat → Prop) (w : World) (v : Value) (rows : List (List Value)) : Prop :=
  ∃ vs : List Value, SlAtP ok w v vs ∧ vs.length = rows.length ∧ ∀ (i : Nat) (u : Value) (r : List Value), vs[i]? = some u → rows[i]? = some r → SlAtP ok w u r

theorem SlOfP.slOf {ok : Nat → Prop} {w : World} {v : Value} {rows : List (List Value)} (h : SlOfP ok w v rows) : SlOf w v rows :=
  let ⟨vs, h1, h2, h3⟩ := h; ⟨vs, h1.slAt, h2, fun i u r hu hr => (h3 i u r hu hr).slAt⟩
theorem SlOf.slOfP {w : World} {v : Value} {rows : List (List Value)} (h : SlOf w v rows) : SlOfP (fun b => b < w.heap.size) w v rows :=
  let ⟨vs, h1, h2, h3⟩ := h; ⟨vs, h1.slAtP, h2, fun i u r hu hr => (h3 i u r hu hr).slAtP⟩
theorem SlOfP.mono {ok ok' : Nat → Prop} {w : World} {v : Value} {rows : List (List Value)} (h : SlOfP ok w v rows) (hk : ∀ b, ok b → ok' b) : SlOfP ok' w v rows :=
  let ⟨vs, h1, h2, h3⟩ := h; ⟨vs, h1.mono hk, h2, fun i u r hu hr => (h3 i u r hu hr).mono hk⟩
theorem SlOfP.stays {ok : Nat → Prop} {w w' : World} {v : Value} {rows : List (List Value)} (h : SlOfP ok w v rows) (hw : ∀ b, ok b → b < w.heap.size → w'.heap[b]? = w.heap[b]?) : SlOfP ok w' v rows :=
  let ⟨vs, h1, h2, h3⟩ := h; ⟨vs, h1.stays hw, h2, fun i u r hu hr => (h3 i u r hu hr).stays hw⟩

theorem SlAtP.lt {ok : Nat → Prop} {w : World} {v : Value} {xs : List Value} (h : SlAtP ok w v xs) : SlAtP (fun b => ok b ∧ b < w.heap.size) w v xs := by
  obtain ⟨a, c, h1, h2, h3, h4⟩ := h
  refine ⟨a, c, h1, h2, h3, fun hx => ?_⟩
  obtain ⟨b, off, e1, e3, e2⟩ := h4 hx
  refine ⟨b, off, e1, ⟨e3, ?_⟩, e2⟩
  cases xs with
  | nil => exact absurd rfl hx
  | cons x xs => exact cell_lt (e2 0 x rfl)
theorem SlOfP.lt {ok : Nat → Prop} {w : World} {v : Value} {rows : List (List Value)} (h : SlOfP ok w v rows) : SlOfP (fun b => ok b ∧ b < w.heap.size) w v rows :=
  let ⟨vs, h1, h2, h3⟩ := h; ⟨vs, h1.lt, h2, fun i u r hu hr => (h3 i u r hu hr).lt⟩

/-- A new block, its cells written one by one. -/
theorem setCells_alloc (w : World) (t : TypeId) : ∀ (vs pre mid : List Value), mid.length = vs.length →
    (w.alloc (.cells (pre ++ mid).toArray t)).setCells w.heap.size pre.length vs = w.alloc (.cells (pre ++ vs).toArray t)
  | [], pre, mid, h => by
    have : mid = [] := List.eq_nil_of_length_eq_zero (by simpa using h)
    subst this; rfl
  | v :: vs, pre, [], h => by simp at h
  | v :: vs, pre, m :: mid, h => by
    have ih := setCells_alloc w t vs (pre ++ [v]) mid (by simpa using h)
    rw [World.setCells, World.setCell_alloc_at _ _ _ _ _ rfl]
    have e : (pre ++ m :: mid).toArray.setIfInBounds pre.length v = (pre ++ [v] ++ mid).toArray := by simp
    rw [e]
    simpa using ih

theorem setCells_alloc_whole (w : World) (t : TypeId) (Z : Array Value) (vs : List Value) (h : Z.size = vs.length) :
    (w.alloc (.cells Z t)).setCells w.heap.size 0 vs = w.alloc (.cells vs.toArray t) := by
  have := setCells_alloc w t vs [] Z.toList (by simpa using h)
  simpa using this

theorem there_alloc_new (w : World) (t : TypeId) (Z : Array Value) (n : Nat) (h : n ≤ Z.size) : (w.alloc (.cells Z t)).there w.heap.size 0 n := by
  intro j hj
  have hh : (w.alloc (.cells Z t)).heap[w.heap.size]? = some (.cells Z t (0, 0)) := heap_alloc_new w _
  rw [Nat.zero_add]
  exact ⟨by rw [cell_of_heap hh, Array.getElem?_eq_getElem (by omega)]; rfl, frozen_of_heap hh⟩

/-! ### append onto a slice of the call's own, from whatever slice -/

/-- What the second argument of an append yields: m elements of some cells each, these cells. -/
def SrcAt (w : World) (x : Value) (m size : Nat) (news : List Value) : Prop :=
  news.length = m * size ∧ ((∃ c, x = .slice none 0 c ∧ m = 0) ∨ ∃ ad c, x = .slice (some ad) m c ∧ ∀ j u, news[j]? = some u → w.cell? (ad.add j) = some u)

theorem SlAt.src {w : World} {x : Value} {xs : List Value} (h : SlAt w x xs) : SrcAt w x xs.length 1 xs := by
  obtain ⟨a, c, hv, h1, h2, h3⟩ := h
  refine ⟨by simp, ?_⟩
  cases a with
  | none =>
    left
    have : xs = [] := by
      cases xs with
      | nil => rfl
      | cons y ys => obtain ⟨b, off, h, _⟩ := h3 (by simp); cases h
    subst this
    exact ⟨c, by simpa using hv, rfl⟩
  | some ad =>
    right
    refine ⟨ad, c, hv, fun j u hu => ?_⟩
    obtain ⟨b, off, h, hc⟩ := h3 (by intro e; subst e; simp at hu)
    obtain rfl := Option.some.inj h
    rw [Addr.add_mid]
    exact hc j u hu

theorem SrcAt.below {w w' : World} {x : Value} {m size : Nat} {news : List Value} (h : SrcAt w x m size news) (hb : Below w.heap.size w w') : SrcAt w' x m size news := by
  obtain ⟨h1, h2 | ⟨ad, c, hx, hc⟩⟩ := h
  · exact ⟨h1, .inl h2⟩
  · exact ⟨h1, .inr ⟨ad, c, hx, fun j u hu => below_cell hb (hc j u hu)⟩⟩

theorem SrcAt.one (w : World) (B c : Nat) (cs : List Value) (h : ∀ j u, cs[j]? = some u → w.cell? ⟨B, j, none⟩ = some u) : SrcAt w (.slice (some ⟨B, 0, none⟩) 1 c) 1 cs.length cs :=
  ⟨by simp, .inr ⟨_, c, rfl, fun j u hu => by rw [Addr.add_mid, Nat.zero_add]; exact h j u hu⟩⟩

theorem ownsRow_form {w : World} {base e size n : Nat} {v : Value} {xs : List Value} (h : w.ownsRow base e size v n xs) : ∃ a c, v = .slice a n c := by
  rcases h.2 with ⟨h1, h2⟩ | ⟨g, cap, cur, h1, _⟩
  · exact ⟨none, 0, by rw [h2]; exact h1⟩
  · exact ⟨_, _, h1⟩

theorem ownsRow_cap {w : World} {base e size n c : Nat} {a : Option Addr} {xs : List Value} (h : w.ownsRow base e size (.slice a n c) n xs) : n ≤ c := by
  rcases h.2 with ⟨h1, h2⟩ | ⟨g, cap, cur, h1, _, _, hh, _⟩
  · omega
  · simp at h1; omega

theorem run_app {P : Program} (w : World) (base : Nat) (t ty e : TypeId) (z : Value) (size bytes : Nat) (ht : P.underlying t = some (.slice e)) (hinfo : (P.info? e).map (fun i => (i.zero, i.size, i.bytes)) = some (some z, size, bytes))
    (hzs : z.cells.size = size) (hsz : 0 < size) (v : Value) (n : Nat) (xs : List Value) (hown : w.ownsRow base e size v n xs)
    (x : Value) (m : Nat) (news : List Value) (hx : SrcAt w x m size news) (h1 : ∀ u ∈ news, u.oneCell' = true)
    (h63 : n + m ≤ 9223372036854775807) (hbytes : (n + m) * bytes ≤ 140737488355328) (hbase : base ≤ w.heap.size) :
    ∃ a' c' w', (Builtin.append_ #[t, t] ty #[v, x]).run P w = .ok (.slice a' (n + m) c') w' ∧ w'.ownsRow base e size (.slice a' (n + m) c') (n + m) (xs ++ news) ∧ w.grownBy w' v.ownBlock ∧
      ((Value.slice a' (n + m) c').ownBlock = v.ownBlock ∨ (Value.slice a' (n + m) c').ownBlock = some w.heap.size) := by
  obtain ⟨i, hi, hzz⟩ := Option.map_eq_some_iff.1 hinfo
  simp only [Prod.mk.injEq] at hzz
  obtain ⟨hz, hs, hb⟩ := hzz
  obtain ⟨hl, ⟨c, rfl, rfl⟩ | ⟨ad, c, rfl, hc⟩⟩ := hx
  · obtain rfl : news = [] := List.eq_nil_of_length_eq_zero (by simpa using hl)
    obtain ⟨a0, c0, rfl⟩ := ownsRow_form hown
    refine ⟨a0, c0, w, ?_, by simpa using hown, ⟨rfl, rfl, rfl, Nat.le_refl _, fun _ _ _ => rfl⟩, .inl rfl⟩
    have hcap : n ≤ c0 := by
      rcases hown.2 with ⟨h, rfl⟩ | ⟨g, cap, cur, h, _, _, hh, _⟩
      · omega
      · simp at h; omega
    cases a0 with
    | none =>
      have hn : n = 0 := by
        rcases hown.2 with ⟨h, hn⟩ | ⟨g, cap, cur, h, _⟩
        · exact hn
        · simp at h
      subst hn
      simp [Builtin.append_, run_underlying ht, sizeOf, typeInfo, hi, Builtin.lenOf, Builtin.firstCells]
    | some a0 => simp [Builtin.append_, run_underlying ht, sizeOf, typeInfo, hi, Builtin.lenOf, Builtin.firstCells, hcap, storeCells]
  · obtain ⟨v', w', hr, h2, h3, _, h5⟩ := run_append_own_at (P := P) w base t ty e i z size bytes ht hi hz hs hb hzs hsz v n xs hown ad m c news hl hc h1 (by unfold maxLen; exact h63) hbytes hbase
    obtain ⟨a', c', rfl⟩ := ownsRow_form h2
    exact ⟨a', c', w', hr, h2, h3, h5⟩

/-- At the operation. -/
theorem wp_app {P : Program} {w : World} {o : Oper} {a : Act} {K : Act → World → Prop} {Q : Exit → Act → World → Prop} (s x : Operand) (t : TypeId)
    (ho : o.op = .call { callee := .builtin .append, args := #[s, x], argTypes := #[t, t] })
    (base : Nat) (e : TypeId) (z : Value) (size bytes : Nat) (ht : P.underlying t = some (.slice e)) (hinfo : (P.info? e).map (fun i => (i.zero, i.size, i.bytes)) = some (some z, size, bytes))
    (hzs : z.cells.size = size) (hsz : 0 < size) (v : Value) (n : Nat) (xs : List Value) (hs : a.eval s = v) (hown : w.ownsRow base e size v n xs)
    (xv : Value) (m : Nat) (news : List Value) (hx : a.eval x = xv) (hsrc : SrcAt w xv m size news) (h1 : ∀ u ∈ news, u.oneCell' = true)
    (h63 : n + m ≤ 9223372036854775807) (hbytes : (n + m) * bytes ≤ 140737488355328) (hbase : base ≤ w.heap.size)
    (h : ∀ a' c' w', w'.ownsRow base e size (.slice a' (n + m) c') (n + m) (xs ++ news) → w.grownBy w' v.ownBlock →
      ((Value.slice a' (n + m) c').ownBlock = v.ownBlock ∨ (Value.slice a' (n + m) c').ownBlock = some w.heap.size) → K (a.put o.dst (.slice a' (n + m) c')) w') : o.wp P a w K Q := by
  obtain ⟨a', c', w', hr, h2, h3, h4⟩ := run_app (P := P) w base t o.type e z size bytes ht hinfo hzs hsz v n xs hown xv m news hsrc h1 h63 hbytes hbase
  unfold Oper.wp execOp
  simp only [ho, resolve, invoke, builtin, Sem.run_bind, Sem.run_pure, Result.andThen_ok, List.map_toArray, List.map_cons, List.map_nil, hs, hx, hr]
  exact h a' c' w' h2 h3 h4

/-- At the list of a plain region's operations. -/
theorem wpList_app {P : Program} {ops : Array Oper} {w : World} {rest : List Oper} {o : Oper} {a : Act} {Q : Exit → Act → World → Prop} (hgd : o.guard = none) (s x : Operand) (t : TypeId)
    (ho : o.op = .call { callee := .builtin .append, args := #[s, x], argTypes := #[t, t] })
    (base : Nat) (e : TypeId) (z : Value) (size bytes : Nat) (ht : P.underlying t = some (.slice e)) (hinfo : (P.info? e).map (fun i => (i.zero, i.size, i.bytes)) = some (some z, size, bytes))
    (hzs : z.cells.size = size) (hsz : 0 < size) (v : Value) (n : Nat) (xs : List Value) (hs : a.eval s = v) (hown : w.ownsRow base e size v n xs)
    (xv : Value) (m : Nat) (news : List Value) (hx : a.eval x = xv) (hsrc : SrcAt w xv m size news) (h1 : ∀ u ∈ news, u.oneCell' = true)
    (h63 : n + m ≤ 9223372036854775807) (hbytes : (n + m) * bytes ≤ 140737488355328) (hbase : base ≤ w.heap.size)
    (h : ∀ a' c' w', w'.ownsRow base e size (.slice a' (n + m) c') (n + m) (xs ++ news) → w.grownBy w' v.ownBlock →
      ((Value.slice a' (n + m) c').ownBlock = v.ownBlock ∨ (Value.slice a' (n + m) c').ownBlock = some w.heap.size) → wpList P ops Q rest (a.put o.dst (.slice a' (n + m) c')) w') : wpList P ops Q (o :: rest) a w :=
  wpList_plain hgd fun _ hK => wp_app s x t ho base e z size bytes ht hinfo hzs hsz v n xs hs hown xv m news hx hsrc h1 h63 hbytes hbase fun a' c' w' h2 h3 h4 => hK _ _ (h a' c' w' h2 h3 h4)

theorem oneCell_ints (l : List Int) : ∀ u ∈ l.map (Value.int .i64), u.oneCell' = true := by
  intro u hu; obtain ⟨x, _, rfl⟩ := List.mem_map.1 hu; rfl
end Go.Proofs.Lg
