/-
  Part Ord of this claim's proof. Joined by merge.py from the texts of wip/tpl.
-/
import Derived.Test.YtclholnhkhjjaaaGreatBase
import Derived.OrdersHeld
set_option linter.unusedVariables false
set_option linter.unusedSimpArgs false
set_option linter.unnecessarySimpa false
namespace Go.Proofs.Lg
open Go Go.RowKit
section
variable {P : Program} {ops : Array Oper} {Q : Exit → Act → World → Prop} {C : World → Prop}

/-- Operation ex waits for operation i. -/
def waits (ops : Array Oper) (ex i : Nat) : Bool :=
  match ops[ex]? with
  | some o => o.after.any fun e => Region.binds .any e && e.on == i
  | none => true

theorem waits_ready {ex i : Nat} {listed : Array Bool} (h : waits ops ex i = true) (hun : listed.getD i true = false) : ex ∉ Region.ready .any ops listed := by
  intro hr
  obtain ⟨_, o, ho, hall⟩ := mem_ready.1 hr
  unfold waits at h
  simp only [ho] at h
  obtain ⟨e, he, hb⟩ := Array.any_eq_true'.1 h
  simp only [Bool.and_eq_true, beq_iff_eq] at hb
  have h1 := hall e he hb.1
  rw [hb.2] at h1
  rcases Nat.lt_or_ge i listed.size with h' | h'
  · simp [h'] at hun h1; rw [hun] at h1; cases h1
  · simp [Array.getElem?_eq_none h'] at h1

/-- Whatever order is picked; C holds behind every operation but number ex. -/
def wpE (P : Program) (ops : Array Oper) (Q : Exit → Act → World → Prop) (C : World → Prop) (ex : Nat) : Nat → Array Bool → Act → World → Prop
  | 0, listed, a, w => Region.ready .any ops listed = [] ∧ Q .normal a w
  | f + 1, listed, a, w => (Region.ready .any ops listed = [] → Q .normal a w) ∧
    ∀ i ∈ Region.ready .any ops listed, wpOp P ops Q i (fun a' w' => (i = ex ∨ C w') ∧ wpE P ops Q C ex f (listed.setIfInBounds i true) a' w') a w

theorem wpAny_of_E {ex : Nat} : ∀ (f : Nat) (listed : Array Bool) (a : Act) (w : World), wpE P ops Q C ex f listed a w → wpAny P .any ops Q f listed a w
  | 0, _, _, _, h => h
  | f + 1, _, _, _, h => ⟨h.1, fun i hi => wpOp_mono (fun a' w' h' => wpAny_of_E f _ a' w' h'.2) (h.2 i hi)⟩

theorem wpE_first {ex i : Nat} {oi : Oper} {v : Value} (hi : ops[i]? = some oi) (hsel : ∀ (j : Nat) (o : Oper) cs b, ops[j]? = some o → o.op ≠ .select cs b)
    (hQ : ∀ c a w, Q (.panic c) (a.put oi.dst v) w → Q (.panic c) a w) (hex : waits ops ex i = true ∨ i = ex) :
    ∀ (f : Nat) (listed : Array Bool) (a : Act) (w : World),
      (∀ j oj, ops[j]? = some oj → j ≠ i → listed.getD j true = false → (∀ e ∈ oj.after, Region.binds .any e = true → e.on ≠ i) → oi.apart ops oj = true) →
      i ∈ Region.ready .any ops listed → YieldsIf P ops C oi v a → C w →
      wpE P ops Q C ex f (listed.setIfInBounds i true) (a.put oi.dst v) w → wpE P ops Q C ex (f + 1) listed a w := by
  intro f
  induction f with
  | zero =>
    intro listed a w _ hr hy hC H
    refine ⟨fun h => (by rw [h] at hr; cases hr), fun j hj => ?_⟩
    by_cases hji : j = i
    · subst hji; exact hy.wpOp hi hC ⟨.inr hC, H⟩
    · have := ready_mono hj hji
      rw [H.1] at this
      cases this
  | succ f ih =>
    intro listed a w hfree hr hy hC H
    have hun := (mem_ready.1 hr).1
    refine ⟨fun h => (by rw [h] at hr; cases hr), fun j hj => ?_⟩
    by_cases hji : j = i
    · subst hji; exact hy.wpOp hi hC ⟨.inr hC, H⟩
    · have hjex : j ≠ ex := by
        rintro rfl
        rcases hex with h | h
        · exact waits_ready h hun hj
        · exact hji h.symm
      have h1 := H.2 j (ready_mono hj hji)
      obtain ⟨hjun, oj, hoj, hall⟩ := mem_ready.1 hj
      have hnot : ∀ e ∈ oj.after, Region.binds .any e = true → e.on ≠ i := fun e he hb heq => by
        have h1 := hall e he hb
        rw [heq] at h1
        rcases Nat.lt_or_ge i listed.size with h' | h'
        · simp [h'] at hun h1; rw [hun] at h1; cases h1
        · simp [Array.getElem?_eq_none h'] at h1
      have h2 := wpOp_putIf hoj (hfree j oj hoj hji hjun hnot) (fun cs b => hsel i oi cs b hi) (fun cs b => hsel j oj cs b hoj) hQ hy h1
      have hfree' : ∀ k ok, ops[k]? = some ok → k ≠ i → (listed.setIfInBounds j true).getD k true = false →
          (∀ e ∈ ok.after, Region.binds .any e = true → e.on ≠ i) → oi.apart ops ok = true := fun k ok hk hki hun hno => by
        refine hfree k ok hk hki ?_ hno
        by_cases hjk : j = k
        · subst hjk; exact hjun
        · rw [getD_set_ne true hjk] at hun; exact hun
      refine wpOp_mono (fun a' w' h3 => ?_) h2
      have hC' : C w' := h3.2.1.resolve_left hjex
      refine ⟨.inr hC', ih (listed.setIfInBounds j true) a' w' hfree' (ready_mono hr (Ne.symm hji)) h3.1 hC' ?_⟩
      rw [Array.setIfInBounds_comm _ _ hji]
      exact h3.2.2

/-- The static check of an order: (number, is it pure?). -/
def ordB (ops : Array Oper) (ex : Nat) : List (Nat × Bool) → Array Bool → Bool
  | [], listed => (Region.ready .any ops listed).isEmpty
  | (i, true) :: rest, listed => (Region.ready .any ops listed).contains i && Region.free .any ops listed i && waits ops ex i && ordB ops ex rest (listed.setIfInBounds i true)
  | (i, false) :: rest, listed => decide (Region.ready .any ops listed = [i]) && (i != ex || rest.isEmpty) && ordB ops ex rest (listed.setIfInBounds i true)

/-- The walk in that order. -/
def wpOrd (P : Program) (ops : Array Oper) (Q : Exit → Act → World → Prop) (C : World → Prop) (ex : Nat) : List (Nat × Bool) → Act → World → Prop
  | [], a, w => Q .normal a w
  | (i, true) :: rest, a, w => ∃ o, ops[i]? = some o ∧ (∀ v c a w, Q (.panic c) (a.put o.dst v) w → Q (.panic c) a w) ∧ ∃ v, YieldsIf P ops C o v a ∧ wpOrd P ops Q C ex rest (a.put o.dst v) w
  | (i, false) :: rest, a, w => wpOp P ops Q i (fun a' w' => (i = ex ∨ C w') ∧ wpOrd P ops Q C ex rest a' w') a w

theorem wpE_ord {ex : Nat} (hs : Region.noSelect ops = true) : ∀ (ord : List (Nat × Bool)) (listed : Array Bool) (a : Act) (w : World), ordB ops ex ord listed = true → (ord = [] ∨ C w) →
    wpOrd P ops Q C ex ord a w → wpE P ops Q C ex ord.length listed a w
  | [], _, _, _, hB, _, h => ⟨by simpa [ordB] using hB, h⟩
  | (i, true) :: rest, listed, a, w, hB, hC, h => by
    simp only [ordB, Bool.and_eq_true] at hB
    obtain ⟨⟨⟨hr, hf⟩, hw⟩, hB'⟩ := hB
    obtain ⟨o, ho, hQ, v, hy, hK⟩ := h
    have hCw : C w := hC.resolve_left (by simp)
    exact wpE_first ho (Region.noSelect_spec hs) (hQ v) (.inl hw) rest.length listed a w (Region.free_spec ho hf) (by simpa using hr) hy hCw (wpE_ord hs rest _ _ _ hB' (.inr hCw) hK)
  | (i, false) :: rest, listed, a, w, hB, hC, h => by
    simp only [ordB, Bool.and_eq_true, decide_eq_true_eq] at hB
    obtain ⟨⟨hr, he⟩, hB'⟩ := hB
    refine ⟨fun h0 => (by rw [h0] at hr; cases hr), fun j hj => ?_⟩
    rw [hr] at hj
    obtain rfl : j = i := by simpa using hj
    refine wpOp_mono (fun a' w' h' => ⟨h'.1, wpE_ord hs rest _ a' w' hB' ?_ h'.2⟩) h
    rcases h'.1 with h1 | h1
    · subst h1; left; simpa using he
    · exact .inr h1

/-- The theorem. -/
theorem wp_region_ord {id : Nat} {a : Act} {w : World} {l : List Oper} (C : World → Prop) (ex : Nat) (ord : List (Nat × Bool)) (hm : P.follows .mixedOrders = true)
    (hB : (Region.noSelect l.toArray && decide (ord.length = l.length) && ordB l.toArray ex ord (Array.replicate l.length false)) = true) (hC : C w.drew)
    (h : wpOrd P l.toArray Q C ex ord a w.drew) : (Code.region id l.toArray true).wp P Q a w := by
  simp only [Bool.and_eq_true, decide_eq_true_eq] at hB
  obtain ⟨⟨hs, hn⟩, hB⟩ := hB
  refine wp_region_any hm (wpAny_of_E (C := C) (ex := ex) _ _ _ _ ?_)
  have := wpE_ord hs ord _ a w.drew hB (.inr hC) h
  rw [hn] at this
  simpa using this

theorem wpOrd_nil {ex : Nat} {a : Act} {w : World} (h : Q .normal a w) : wpOrd P ops Q C ex [] a w := h

/-- One operation that reads; what follows behind a variable. -/
theorem wpOrd_pure {ex i : Nat} {o : Oper} {rest : List (Nat × Bool)} {a : Act} {w : World} (hi : ops[i]? = some o) (hQ : ∀ v c a w, Q (.panic c) (a.put o.dst v) w → Q (.panic c) a w) (hg : o.guard = none)
    (h : ∀ K : Act → Prop, (∀ a, wpOrd P ops Q C ex rest a w → K a) → ∃ v, (∀ p : Cls C, (execOp a.eval o).run P p.w = .ok (.value v) p.w) ∧ K (a.put o.dst v)) : wpOrd P ops Q C ex ((i, true) :: rest) a w := by
  obtain ⟨v, h1, h2⟩ := h _ (fun _ h => h)
  exact ⟨o, hi, hQ, v, .inl ⟨by simp [Region.wanted, hg], fun w' hw' => h1 ⟨w', hw'⟩⟩, h2⟩

/-- One operation that writes, makes memory or calls. -/
theorem wpOrd_eff {ex i : Nat} {o : Oper} {rest : List (Nat × Bool)} {a : Act} {w : World} (hi : ops[i]? = some o) (hg : o.guard = none)
    (h : ∀ K : Act → World → Prop, (∀ a' w', (i = ex ∨ C w') → wpOrd P ops Q C ex rest a' w' → K a' w') → o.wp P a w K Q) : wpOrd P ops Q C ex ((i, false) :: rest) a w := by
  show wpOp P ops Q i _ a w
  unfold wpOp
  simp only [hi]
  rw [if_pos (by simp [Region.wanted, hg])]
  exact .inl (h _ fun a' w' h1 h2 => ⟨h1, h2⟩)

/-- The region, its orders still open: for a region in which two effects do not wait for one another. -/
theorem wp_region_E {id : Nat} {a : Act} {w : World} {l : List Oper} (C : World → Prop) (ex : Nat) (hm : P.follows .mixedOrders = true)
    (h : wpE P l.toArray Q C ex l.length (Array.replicate l.length false) a w.drew) : (Code.region id l.toArray true).wp P Q a w :=
  wp_region_any hm (wpAny_of_E (C := C) (ex := ex) _ _ _ _ (by simpa using h))

theorem wpE_pure {ex f i : Nat} {o : Oper} {listed : Array Bool} {a : Act} {w : World} (hi : ops[i]? = some o)
    (hB : (Region.noSelect ops && (Region.ready .any ops listed).contains i && Region.free .any ops listed i && waits ops ex i) = true)
    (hQ : ∀ v c a w, Q (.panic c) (a.put o.dst v) w → Q (.panic c) a w) (hg : o.guard = none) (hC : C w)
    (h : ∀ K : Act → Prop, (∀ a, wpE P ops Q C ex f (listed.setIfInBounds i true) a w → K a) → ∃ v, (∀ p : Cls C, (execOp a.eval o).run P p.w = .ok (.value v) p.w) ∧ K (a.put o.dst v)) : wpE P ops Q C ex (f + 1) listed a w := by
  simp only [Bool.and_eq_true] at hB
  obtain ⟨⟨⟨hs, hr⟩, hf⟩, hw⟩ := hB
  obtain ⟨v, h1, h2⟩ := h _ (fun _ h => h)
  exact wpE_first hi (Region.noSelect_spec hs) (hQ v) (.inl hw) f listed a w (Region.free_spec hi hf) (by simpa using hr) (.inl ⟨by simp [Region.wanted, hg], fun w' hw' => h1 ⟨w', hw'⟩⟩) hC h2

theorem wpE_one {ex f i : Nat} {o : Oper} {listed : Array Bool} {a : Act} {w : World} (hi : ops[i]? = some o) (hB : decide (Region.ready .any ops listed = [i]) = true) (hg : o.guard = none)
    (h : ∀ K : Act → World → Prop, (∀ a' w', (i = ex ∨ C w') → wpE P ops Q C ex f (listed.setIfInBounds i true) a' w' → K a' w') → o.wp P a w K Q) : wpE P ops Q C ex (f + 1) listed a w := by
  have hr := of_decide_eq_true hB
  refine ⟨fun h0 => (by rw [h0] at hr; cases hr), fun j hj => ?_⟩
  rw [hr] at hj
  obtain rfl : j = i := by simpa using hj
  unfold wpOp
  simp only [hi]
  rw [if_pos (by simp [Region.wanted, hg])]
  exact .inl (h _ fun a' w' h1 h2 => ⟨h1, h2⟩)

theorem wpE_two {ex f i j : Nat} {o o' : Oper} {listed : Array Bool} {a : Act} {w : World} (hi : ops[i]? = some o) (hj : ops[j]? = some o') (hB : decide (Region.ready .any ops listed = [i, j]) = true) (hg : o.guard = none) (hg' : o'.guard = none)
    (h : ∀ K : Act → World → Prop, (∀ a' w', (i = ex ∨ C w') → wpE P ops Q C ex f (listed.setIfInBounds i true) a' w' → K a' w') → o.wp P a w K Q)
    (h' : ∀ K : Act → World → Prop, (∀ a' w', (j = ex ∨ C w') → wpE P ops Q C ex f (listed.setIfInBounds j true) a' w' → K a' w') → o'.wp P a w K Q) : wpE P ops Q C ex (f + 1) listed a w := by
  have hr := of_decide_eq_true hB
  refine ⟨fun h0 => (by rw [h0] at hr; cases hr), fun k hk => ?_⟩
  rw [hr] at hk
  simp only [List.mem_cons, List.not_mem_nil, or_false] at hk
  unfold wpOp
  rcases hk with rfl | rfl
  · simp only [hi]
    rw [if_pos (by simp [Region.wanted, hg])]
    exact .inl (h _ fun a' w' h1 h2 => ⟨h1, h2⟩)
  · simp only [hj]
    rw [if_pos (by simp [Region.wanted, hg'])]
    exact .inl (h' _ fun a' w' h1 h2 => ⟨h1, h2⟩)

theorem wpE_done {ex : Nat} {listed : Array Bool} {a : Act} {w : World} (hB : decide (Region.ready .any ops listed = []) = true) (h : Q .normal a w) : wpE P ops Q C ex 0 listed a w :=
  ⟨of_decide_eq_true hB, h⟩
end
end Go.Proofs.Lg
