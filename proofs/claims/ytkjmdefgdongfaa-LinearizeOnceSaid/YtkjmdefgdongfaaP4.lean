/-
  The plain law of an order, its second half: what the regions look like, what a gap's lines have to do with each other. No program in sight.
-/
import Derived.Test.YtkjmdefgdongfaaP3
namespace Go.Proofs.Lg

/-! ### What the regions look like -/

/-- A region as the chapter wants it: lines and no sides, or sides and no lines; nothing in it is empty. -/
def GoodReg (r : Reg) : Prop := (r.conflict = false ∧ r.lines ≠ [] ∧ r.sides = []) ∨ (r.conflict = true ∧ r.lines = [] ∧ r.sides ≠ [] ∧ ∀ s ∈ r.sides, s ≠ [])

/-- No two regions without a conflict stand beside each other; behind the regions stands what p says. -/
def Alter : Bool → List Reg → Prop
  | _, [] => True
  | p, r :: l => (p = true ∨ r.conflict = true) ∧ Alter r.conflict l

theorem alter_append : ∀ (p : Bool) (a b : List Reg), Alter p (a ++ b) ↔ Alter p a ∧ Alter ((a.getLast?.map (·.conflict)).getD p) b
  | p, [], b => by simp [Alter]
  | p, r :: a, b => by
    have ih := alter_append r.conflict a b
    cases a with
    | nil => simp only [List.cons_append, List.nil_append, Alter, List.getLast?_singleton, Option.map_some, Option.getD_some, and_true]
    | cons s a =>
      rw [List.cons_append]
      simp only [Alter] at ih ⊢
      rw [List.getLast?_cons_cons]
      constructor
      · rintro ⟨h1, h2⟩
        have h3 := ih.1 h2
        refine ⟨⟨h1, h3.1⟩, ?_⟩
        cases h : (s :: a).getLast? with
        | none => simp at h
        | some x => rw [h] at h3; exact h3.2
      · rintro ⟨⟨h1, h2⟩, h3⟩
        refine ⟨h1, ih.2 ⟨h2, ?_⟩⟩
        cases h : (s :: a).getLast? with
        | none => simp at h
        | some x => rw [h] at h3; exact h3

theorem classesL_ne {rows : List (List Bool)} {n : Nat} (ht : TransR n rows) {l : List Nat} (hl : ∀ i ∈ l, i < n) (h : l ≠ []) : classesL rows l ≠ [] := by
  obtain ⟨x, t, rfl⟩ : ∃ x t, l = x :: t := by cases l with | nil => exact absurd rfl h | cons x t => exact ⟨x, t, rfl⟩
  intro e
  have := (classesL_ok ht hl).2 x
  rw [e] at this
  simp at this

/-- The regions so far. -/
structure RunOk (c : List Reg × List Nat) : Prop where
  good : ∀ r ∈ c.1, GoodReg r
  alter : Alter true c.1
  last : ∀ r, c.1.getLast? = some r → r.conflict = true

theorem regStep_ok {rows : List (List Bool)} {n : Nat} (ht : TransR n rows) {inn out : List Nat} (hout : ∀ i ∈ out, i < n) {c : List Reg × List Nat} (hc : RunOk c) (m : Nat) : RunOk (regStep rows inn out c m) := by
  obtain ⟨regs, run⟩ := c
  obtain ⟨h1, h2, h3⟩ := hc
  dsimp only at h1 h2 h3
  have hg : ∀ i ∈ (out.filter fun i => gapN rows inn i == m), i < n := fun i hi => hout i (List.mem_filter.1 hi).1
  unfold regStep
  dsimp only
  generalize (out.filter fun i => gapN rows inn i == m) = g at hg
  have key : RunOk ((if g = [] then (regs, run) else ((if run = [] then regs else regs ++ [⟨false, run, []⟩]) ++ [⟨true, [], classesL rows g⟩], [])).1, run) := by
    by_cases hge : g = []
    · simp only [hge, if_true]; exact ⟨h1, h2, h3⟩
    · have hlast : (regs.getLast?.map (·.conflict)).getD true = true := by
        cases h : regs.getLast? with
        | none => rfl
        | some r => simp [h3 r h]
      have hcf : GoodReg ⟨true, [], classesL rows g⟩ := .inr ⟨rfl, rfl, classesL_ne ht hg hge, (classesL_ok ht hg).1.full⟩
      simp only [hge, if_false]
      by_cases hr : run = []
      · simp only [hr, if_true]
        refine ⟨fun r hr' => ?_, ?_, fun r hr' => ?_⟩
        · rcases List.mem_append.1 hr' with h | h
          · exact h1 r h
          · obtain rfl := List.mem_singleton.1 h; exact hcf
        · rw [alter_append, hlast]
          exact ⟨h2, .inl rfl, trivial⟩
        · rw [List.getLast?_append] at hr'
          simp at hr'; rw [← hr']
      · simp only [hr, if_false]
        refine ⟨fun r hr' => ?_, ?_, fun r hr' => ?_⟩
        · rcases List.mem_append.1 hr' with h | h
          · rcases List.mem_append.1 h with h | h
            · exact h1 r h
            · obtain rfl := List.mem_singleton.1 h; exact .inl ⟨rfl, hr, rfl⟩
          · obtain rfl := List.mem_singleton.1 h; exact hcf
        · rw [List.append_assoc, alter_append, hlast]
          exact ⟨h2, .inl rfl, .inr rfl, trivial⟩
        · rw [List.getLast?_append] at hr'
          simp at hr'; rw [← hr']
  by_cases hge : g = []
  · subst hge
    cases inn[m]? <;> exact ⟨h1, h2, h3⟩
  · simp only [hge, if_false] at key ⊢
    cases inn[m]? <;> exact ⟨key.1, key.2, key.3⟩

theorem regRun_ok {rows : List (List Bool)} {n : Nat} (ht : TransR n rows) {inn out : List Nat} (hout : ∀ i ∈ out, i < n) : ∀ m : Nat, RunOk (regRun rows inn out m)
  | 0 => ⟨by simp [regRun], trivial, by simp [regRun]⟩
  | m + 1 => by rw [regRun_succ]; exact regStep_ok ht hout (regRun_ok ht hout m) m

/-- P23.4, its first half: what each region looks like, and how they stand beside each other. -/
theorem regionsL_good {n : Nat} {rows : List (List Bool)} {living : List Nat} (h : Lv n rows living) : (∀ r ∈ regionsL rows living, GoodReg r) ∧ Alter true (regionsL rows living) := by
  have hok := regRun_ok (inn := sortB rows (inL rows living living)) h.t (out := outL rows living living) (fun i hi => h.lt i (mem_outL.1 hi).1) ((sortB rows (inL rows living living)).length + 1)
  unfold regionsL
  generalize regRun rows _ _ _ = c at hok
  unfold regEnd
  by_cases hr : c.2 = []
  · rw [if_pos hr]; exact ⟨hok.good, hok.alter⟩
  · rw [if_neg hr]
    refine ⟨fun r hr' => ?_, ?_⟩
    · rcases List.mem_append.1 hr' with h | h
      · exact hok.good r h
      · obtain rfl := List.mem_singleton.1 h; exact .inl ⟨rfl, hr, rfl⟩
    · rw [alter_append]
      refine ⟨hok.alter, .inl ?_, trivial⟩
      cases hl : c.1.getLast? with
      | none => rfl
      | some r => simp [hok.last r hl]

theorem alter_get : ∀ (p : Bool) (l : List Reg) (i : Nat) (r s : Reg), Alter p l → l[i]? = some r → l[i + 1]? = some s → r.conflict = true ∨ s.conflict = true
  | _, [], _, _, _, _, h, _ => by simp at h
  | _, [_], 0, _, _, _, _, h => by simp at h
  | _, a :: b :: l, 0, r, s, h, h1, h2 => by
    simp at h1 h2; subst h1 h2
    exact h.2.1
  | _, a :: l, i + 1, r, s, h, h1, h2 => alter_get a.conflict l i r s h.2 (by simpa using h1) (by simpa using h2)

/-- Each region with a conflict is a gap's; each gap that has lines has one. -/
theorem regRun_conflict {rows : List (List Bool)} {inn out : List Nat} : ∀ (m : Nat), (∀ r ∈ (regRun rows inn out m).1, r.conflict = true → ∃ k, (out.filter fun i => gapN rows inn i == k) ≠ [] ∧ r.sides = classesL rows (out.filter fun i => gapN rows inn i == k)) ∧
    (∀ k, k < m → (out.filter fun i => gapN rows inn i == k) ≠ [] → ∃ r ∈ (regRun rows inn out m).1, r.conflict = true)
  | 0 => ⟨by simp [regRun], fun k hk => by omega⟩
  | m + 1 => by
    obtain ⟨h1, h2⟩ := regRun_conflict (rows := rows) (inn := inn) (out := out) m
    rw [regRun_succ]
    generalize regRun rows inn out m = c at h1 h2
    obtain ⟨regs, run⟩ := c
    dsimp only at h1 h2
    have hfst : (regStep rows inn out (regs, run) m).1 = if (out.filter fun i => gapN rows inn i == m) = [] then regs else ((if run = [] then regs else regs ++ [⟨false, run, []⟩]) ++ [⟨true, [], classesL rows (out.filter fun i => gapN rows inn i == m)⟩]) := by
      unfold regStep
      dsimp only
      by_cases hge : (out.filter fun i => gapN rows inn i == m) = []
      · simp only [hge, if_true]; cases inn[m]? <;> rfl
      · simp only [hge, if_false]; cases inn[m]? <;> rfl
    rw [hfst]
    by_cases hge : (out.filter fun i => gapN rows inn i == m) = []
    · rw [if_pos hge]
      refine ⟨h1, fun k hk hne => ?_⟩
      by_cases hkm : k = m
      · subst hkm; exact absurd hge hne
      · exact h2 k (by omega) hne
    · rw [if_neg hge]
      refine ⟨fun r hr hcf => ?_, fun k hk hne => ?_⟩
      · rcases List.mem_append.1 hr with h | h
        · by_cases hrun : run = []
          · rw [if_pos hrun] at h; exact h1 r h hcf
          · rw [if_neg hrun] at h
            rcases List.mem_append.1 h with h | h
            · exact h1 r h hcf
            · obtain rfl := List.mem_singleton.1 h; cases hcf
        · obtain rfl := List.mem_singleton.1 h
          exact ⟨m, hge, rfl⟩
      · exact ⟨_, List.mem_append_right _ (List.mem_singleton.2 rfl), rfl⟩

theorem regionsL_conflict {rows : List (List Bool)} {living : List Nat} : (∀ r ∈ regionsL rows living, r.conflict = true → ∃ k, r.sides = classesL rows ((outL rows living living).filter fun i => gapN rows (sortB rows (inL rows living living)) i == k)) ∧
    ((∃ r ∈ regionsL rows living, r.conflict = true) ↔ outL rows living living ≠ []) := by
  obtain ⟨h1, h2⟩ := regRun_conflict (rows := rows) (inn := sortB rows (inL rows living living)) (out := outL rows living living) ((sortB rows (inL rows living living)).length + 1)
  unfold regionsL
  generalize hc : regRun rows (sortB rows (inL rows living living)) (outL rows living living) ((sortB rows (inL rows living living)).length + 1) = c at h1 h2
  have hmem : ∀ r, r ∈ regEnd c → r.conflict = true → r ∈ c.1 := by
    intro r hr hcf
    unfold regEnd at hr
    split at hr
    · exact hr
    · rcases List.mem_append.1 hr with h | h
      · exact h
      · obtain rfl := List.mem_singleton.1 h; cases hcf
  refine ⟨fun r hr hcf => ?_, fun ⟨r, hr, hcf⟩ => ?_, fun hne => ?_⟩
  · obtain ⟨k, _, hk⟩ := h1 r (hmem r hr hcf) hcf
    exact ⟨k, hk⟩
  · obtain ⟨k, hk, _⟩ := h1 r (hmem r hr hcf) hcf
    intro e
    rw [e] at hk
    exact hk rfl
  · obtain ⟨x, hx⟩ := List.exists_mem_of_ne_nil _ hne
    obtain ⟨r, hr, hcf⟩ := h2 (gapN rows (sortB rows (inL rows living living)) x) (by have : gapN rows (sortB rows (inL rows living living)) x ≤ (sortB rows (inL rows living living)).length := List.length_filter_le _ _; omega)
      (by intro e; have : x ∈ (outL rows living living).filter fun i => gapN rows (sortB rows (inL rows living living)) i == gapN rows (sortB rows (inL rows living living)) x := List.mem_filter.2 ⟨hx, by simp⟩; rw [e] at this; cases this)
    refine ⟨r, ?_, hcf⟩
    unfold regEnd
    split
    · exact hr
    · exact List.mem_append_left _ hr

/-- P23.5: each line of a region with a conflict has another one in it, neither of which is before the other one. -/
theorem gap_apart {n : Nat} {rows : List (List Bool)} {living : List Nat} (h : Lv n rows living) {k u : Nat} (hu : u ∈ (outL rows living living).filter fun i => gapN rows (sortB rows (inL rows living living)) i == k) :
    ∃ v ∈ (outL rows living living).filter fun i => gapN rows (sortB rows (inL rows living living)) i == k, u ≠ v ∧ relat rows u v = false := by
  obtain ⟨huo, huk⟩ := List.mem_filter.1 hu
  simp only [beq_iff_eq] at huk
  obtain ⟨hul, v, hvl, huv, hrel⟩ := mem_outL.1 huo
  have hvo : v ∈ outL rows living living := mem_outL.2 ⟨hvl, u, hul, fun e => huv e.symm, by rw [relat_symm]; exact hrel⟩
  refine ⟨v, List.mem_filter.2 ⟨hvo, ?_⟩, huv, hrel⟩
  have hin : ∀ i, i ∈ sortB rows (inL rows living living) ↔ i ∈ inL rows living living := fun i => (sortB_perm _ _).mem_iff
  have hlt : ∀ i ∈ sortB rows (inL rows living living), i < n := fun i hi => h.lt i (mem_inL.1 ((hin i).1 hi)).1
  have hpre := fun u hu => gap_prefix h.t (sortB rows (inL rows living living)) u h.inn hlt hu
  have hne : ∀ s u, s ∈ sortB rows (inL rows living living) → u ∈ outL rows living living → s ≠ u := by
    intro s u hs hu e
    subst e
    obtain ⟨_, j, hj, h1, h2⟩ := mem_outL.1 hu
    have := (mem_inL.1 ((hin _).1 hs)).2 j hj h1
    rw [h2] at this; cases this
  have hrl : ∀ s u, s ∈ sortB rows (inL rows living living) → u ∈ outL rows living living → bef rows s u = true ∨ bef rows u s = true := fun s u hs hu => h.rel ((hin s).1 hs) (mem_outL.1 hu).1 (hne s u hs hu)
  have step : ∀ a b, a ∈ outL rows living living → b ∈ outL rows living living → relat rows a b = false → ¬ gapN rows (sortB rows (inL rows living living)) a < gapN rows (sortB rows (inL rows living living)) b := by
    intro a b ha hb hr hlt2
    have han := h.lt a (mem_outL.1 ha).1
    have hbn := h.lt b (mem_outL.1 hb).1
    have hk : gapN rows (sortB rows (inL rows living living)) a < (sortB rows (inL rows living living)).length := by
      have : gapN rows (sortB rows (inL rows living living)) b ≤ (sortB rows (inL rows living living)).length := List.length_filter_le _ _
      omega
    have e := List.getElem?_eq_getElem hk
    have hs := List.getElem_mem hk
    generalize (sortB rows (inL rows living living))[gapN rows (sortB rows (inL rows living living)) a] = s at e hs
    have h1 := (hpre b hbn _ _ e).2 hlt2
    have h2 : bef rows s a = false := by
      cases hb2 : bef rows s a with
      | false => rfl
      | true => have := (hpre a han _ _ e).1 hb2; omega
    have h3 : bef rows a s = true := by
      rcases hrl s a hs ha with h4 | h4
      · rw [h2] at h4; cases h4
      · exact h4
    have h5 := bef_trans h.t han (hlt s hs) hbn h3 h1
    unfold relat at hr
    rw [h5] at hr; cases hr
  have h1 := step u v huo hvo hrel
  have h2 := step v u hvo huo (by rw [relat_symm]; exact hrel)
  simp only [beq_iff_eq]
  omega
end Go.Proofs.Lg
