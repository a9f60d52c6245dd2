/-
  Part PA of this claim's proof. Joined by merge.py from the texts of wip/tpl.
-/
import Derived.Test.YtclholnhkhjjaaaGreatP3
import Derived.Test.YtclholnhkhjjaaaGreatR2
import Derived.Test.YtclholnhkhjjaaaGreatC2
set_option linter.unusedVariables false
set_option linter.unusedSimpArgs false
set_option linter.unnecessarySimpa false
namespace Go.Proofs.Lg

/-! ### What the regions look like -/

/-- A region as the chapter wants it: lines and no sides, or sides and no lines; nothing in it is empty. -/
def GoodReg (r : Reg) : Prop := (r.conflict = false ∧ r.lines ≠ [] ∧ r.sides = []) ∨ (r.conflict = true ∧ r.lines = [] ∧ r.sides ≠ [] ∧ ∀ s ∈ r.sides, s ≠ [])

/-- No two regions without a conflict stand beside each other; behind the regions stands what p says. -/
def Alter : Bool → List Reg → Prop
  | _, [] => True
  | p, r :: l => (p = true ∨ r.conflict = true) ∧ Alter r.conflict l

theorem alter_append : ∀ (p : Bool) (a b : List Reg), Alter p (a ++ b) ↔ Alter p a ∧ Alter ((a.getLast?.map (·.conflict)).getD p) b
  | p, [], b => by simp [Alter]
  | p, r :: a, b => by
    have ih := alter_append r.conflict a b
    cases a with
    | nil => simp only [List.cons_append, List.nil_append, Alter, List.getLast?_singleton, Option.map_some, Option.getD_some, and_true]
    | cons s a =>
      rw [List.cons_append]
      simp only [Alter] at ih ⊢
      rw [List.getLast?_cons_cons]
      constructor
      · rintro ⟨h1, h2⟩
        have h3 := ih.1 h2
        refine ⟨⟨h1, h3.1⟩, ?_⟩
        cases h : (s :: a).getLast? with
        | none => simp at h
        | some x => rw [h] at h3; exact h3.2
      · rintro ⟨⟨h1, h2⟩, h3⟩
        refine ⟨h1, ih.2 ⟨h2, ?_⟩⟩
        cases h : (s :: a).getLast? with
        | none => simp at h
        | some x => rw [h] at h3; exact h3

theorem classesL_ne {rows : List (List Bool)} {n : Nat} (ht : TransR n rows) {l : List Nat} (hl : ∀ i ∈ l, i < n) (h : l ≠ []) : classesL rows l ≠ [] := by
  obtain ⟨x, t, rfl⟩ : ∃ x t, l = x :: t := by cases l with | nil => exact absurd rfl h | cons x t => exact ⟨x, t, rfl⟩
  intro e
  have := (classesL_ok ht hl).2 x
  rw [e] at this
  simp at this

/-- The regions so far. -/
structure RunOk (c : List Reg × List Nat) : Prop where
  good : ∀ r ∈ c.1, GoodReg r
  alter : Alter true c.1
  last : ∀ r, c.1.getLast? = some r → r.conflict = true

theorem regStep_ok {rows : List (List Bool)} {n : Nat} (ht : TransR n rows) {inn out : List Nat} (hout : ∀ i ∈ out, i < n) {c : List Reg × List Nat} (hc : RunOk c) (m : Nat) : RunOk (regStep rows inn out c m) := by
  obtain ⟨regs, run⟩ := c
  obtain ⟨h1, h2, h3⟩ := hc
  dsimp only at h1 h2 h3
  have hg : ∀ i ∈ (out.filter fun i => gapN rows inn i == m), i < n := fun i hi => hout i (List.mem_filter.1 hi).1
  unfold regStep
  dsimp only
  generalize (out.filter fun i => gapN rows inn i == m) = g at hg
  have key : RunOk ((if g = [] then (regs, run) else ((if run = [] then regs else regs ++ [⟨false, run, []⟩]) ++ [⟨true, [], classesL rows g⟩], [])).1, run) := by
    by_cases hge : g = []
    · simp only [hge, if_true]; exact ⟨h1, h2, h3⟩
    · have hlast : (regs.getLast?.map (·.conflict)).getD true = true := by
        cases h : regs.getLast? with
        | none => rfl
        | some r => simp [h3 r h]
      have hcf : GoodReg ⟨true, [], classesL rows g⟩ := .inr ⟨rfl, rfl, classesL_ne ht hg hge, (classesL_ok ht hg).1.full⟩
      simp only [hge, if_false]
      by_cases hr : run = []
      · simp only [hr, if_true]
        refine ⟨fun r hr' => ?_, ?_, fun r hr' => ?_⟩
        · rcases List.mem_append.1 hr' with h | h
          · exact h1 r h
          · obtain rfl := List.mem_singleton.1 h; exact hcf
        · rw [alter_append, hlast]
          exact ⟨h2, .inl rfl, trivial⟩
        · rw [List.getLast?_append] at hr'
          simp at hr'; rw [← hr']
      · simp only [hr, if_false]
        refine ⟨fun r hr' => ?_, ?_, fun r hr' => ?_⟩
        · rcases List.mem_append.1 hr' with h | h
          · rcases List.mem_append.1 h with h | h
            · exact h1 r h
            · obtain rfl := List.mem_singleton.1 h; exact .inl ⟨rfl, hr, rfl⟩
          · obtain rfl := List.mem_singleton.1 h; exact hcf
        · rw [List.append_assoc, alter_append, hlast]
          exact ⟨h2, .inl rfl, .inr rfl, trivial⟩
        · rw [List.getLast?_append] at hr'
          simp at hr'; rw [← hr']
  by_cases hge : g = []
  · subst hge
    cases inn[m]? <;> exact ⟨h1, h2, h3⟩
  · simp only [hge, if_false] at key ⊢
    cases inn[m]? <;> exact ⟨key.1, key.2, key.3⟩

theorem regRun_ok {rows : List (List Bool)} {n : Nat} (ht : TransR n rows) {inn out : List Nat} (hout : ∀ i ∈ out, i < n) : ∀ m : Nat, RunOk (regRun rows inn out m)
  | 0 => ⟨by simp [regRun], trivial, by simp [regRun]⟩
  | m + 1 => by rw [regRun_succ]; exact regStep_ok ht hout (regRun_ok ht hout m) m

/-- P23.4, its first half: what each region looks like, and how they stand beside each other. -/
theorem regionsL_good {n : Nat} {rows : List (List Bool)} {living : List Nat} (h : Lv n rows living) : (∀ r ∈ regionsL rows living, GoodReg r) ∧ Alter true (regionsL rows living) := by
  have hok := regRun_ok (inn := sortB rows (inL rows living living)) h.t (out := outL rows living living) (fun i hi => h.lt i (mem_outL.1 hi).1) ((sortB rows (inL rows living living)).length + 1)
  unfold regionsL
  generalize regRun rows _ _ _ = c at hok
  unfold regEnd
  by_cases hr : c.2 = []
  · rw [if_pos hr]; exact ⟨hok.good, hok.alter⟩
  · rw [if_neg hr]
    refine ⟨fun r hr' => ?_, ?_⟩
    · rcases List.mem_append.1 hr' with h | h
      · exact hok.good r h
      · obtain rfl := List.mem_singleton.1 h; exact .inl ⟨rfl, hr, rfl⟩
    · rw [alter_append]
      refine ⟨hok.alter, .inl ?_, trivial⟩
      cases hl : c.1.getLast? with
      | none => rfl
      | some r => simp [hok.last r hl]

theorem alter_get : ∀ (p : Bool) (l : List Reg) (i : Nat) (r s : Reg), Alter p l → l[i]? = some r → l[i + 1]? = some s → r.conflict = true ∨ s.conflict = true
  | _, [], _, _, _, _, h, _ => by simp at h
  | _, [_], 0, _, _, _, _, h => by simp at h
  | _, a :: b :: l, 0, r, s, h, h1, h2 => by
    simp at h1 h2; subst h1 h2
    exact h.2.1
  | _, a :: l, i + 1, r, s, h, h1, h2 => alter_get a.conflict l i r s h.2 (by simpa using h1) (by simpa using h2)

/-- Each region with a conflict is a gap's; each gap that has lines has one. -/
theorem regRun_conflict {rows : List (List Bool)} {inn out : List Nat} : ∀ (m : Nat), (∀ r ∈ (regRun rows inn out m).1, r.conflict = true → ∃ k, (out.filter fun i => gapN rows inn i == k) ≠ [] ∧ r.sides = classesL rows (out.filter fun i => gapN rows inn i == k)) ∧
    (∀ k, k < m → (out.filter fun i => gapN rows inn i == k) ≠ [] → ∃ r ∈ (regRun rows inn out m).1, r.conflict = true)
  | 0 => ⟨by simp [regRun], fun k hk => by omega⟩
  | m + 1 => by
    obtain ⟨h1, h2⟩ := regRun_conflict (rows := rows) (inn := inn) (out := out) m
    rw [regRun_succ]
    generalize regRun rows inn out m = c at h1 h2
    obtain ⟨regs, run⟩ := c
    dsimp only at h1 h2
    have hfst : (regStep rows inn out (regs, run) m).1 = if (out.filter fun i => gapN rows inn i == m) = [] then regs else ((if run = [] then regs else regs ++ [⟨false, run, []⟩]) ++ [⟨true, [], classesL rows (out.filter fun i => gapN rows inn i == m)⟩]) := by
      unfold regStep
      dsimp only
      by_cases hge : (out.filter fun i => gapN rows inn i == m) = []
      · simp only [hge, if_true]; cases inn[m]? <;> rfl
      · simp only [hge, if_false]; cases inn[m]? <;> rfl
    rw [hfst]
    by_cases hge : (out.filter fun i => gapN rows inn i == m) = []
    · rw [if_pos hge]
      refine ⟨h1, fun k hk hne => ?_⟩
      by_cases hkm : k = m
      · subst hkm; exact absurd hge hne
      · exact h2 k (by omega) hne
    · rw [if_neg hge]
      refine ⟨fun r hr hcf => ?_, fun k hk hne => ?_⟩
      · rcases List.mem_append.1 hr with h | h
        · by_cases hrun : run = []
          · rw [if_pos hrun] at h; exact h1 r h hcf
          · rw [if_neg hrun] at h
            rcases List.mem_append.1 h with h | h
            · exact h1 r h hcf
            · obtain rfl := List.mem_singleton.1 h; cases hcf
        · obtain rfl := List.mem_singleton.1 h
          exact ⟨m, hge, rfl⟩
      · exact ⟨_, List.mem_append_right _ (List.mem_singleton.2 rfl), rfl⟩

theorem regionsL_conflict {rows : List (List Bool)} {living : List Nat} : (∀ r ∈ regionsL rows living, r.conflict = true → ∃ k, r.sides = classesL rows ((outL rows living living).filter fun i => gapN rows (sortB rows (inL rows living living)) i == k)) ∧
    ((∃ r ∈ regionsL rows living, r.conflict = true) ↔ outL rows living living ≠ []) := by
  obtain ⟨h1, h2⟩ := regRun_conflict (rows := rows) (inn := sortB rows (inL rows living living)) (out := outL rows living living) ((sortB rows (inL rows living living)).length + 1)
  unfold regionsL
  generalize hc : regRun rows (sortB rows (inL rows living living)) (outL rows living living) ((sortB rows (inL rows living living)).length + 1) = c at h1 h2
  have hmem : ∀ r, r ∈ regEnd c → r.conflict = true → r ∈ c.1 := by
    intro r hr hcf
    unfold regEnd at hr
    split at hr
    · exact hr
    · rcases List.mem_append.1 hr with h | h
      · exact h
      · obtain rfl := List.mem_singleton.1 h; cases hcf
  refine ⟨fun r hr hcf => ?_, fun ⟨r, hr, hcf⟩ => ?_, fun hne => ?_⟩
  · obtain ⟨k, _, hk⟩ := h1 r (hmem r hr hcf) hcf
    exact ⟨k, hk⟩
  · obtain ⟨k, hk, _⟩ := h1 r (hmem r hr hcf) hcf
    intro e
    rw [e] at hk
    exact hk rfl
  · obtain ⟨x, hx⟩ := List.exists_mem_of_ne_nil _ hne
    obtain ⟨r, hr, hcf⟩ := h2 (gapN rows (sortB rows (inL rows living living)) x) (by have : gapN rows (sortB rows (inL rows living living)) x ≤ (sortB rows (inL rows living living)).length := List.length_filter_le _ _; omega)
      (by intro e; have : x ∈ (outL rows living living).filter fun i => gapN rows (sortB rows (inL rows living living)) i == gapN rows (sortB rows (inL rows living living)) x := List.mem_filter.2 ⟨hx, by simp⟩; rw [e] at this; cases this)
    refine ⟨r, ?_, hcf⟩
    unfold regEnd
    split
    · exact hr
    · exact List.mem_append_left _ hr

/-- P23.5: each line of a region with a conflict has another one in it, neither of which is before the other one. -/
theorem gap_apart {n : Nat} {rows : List (List Bool)} {living : List Nat} (h : Lv n rows living) {k u : Nat} (hu : u ∈ (outL rows living living).filter fun i => gapN rows (sortB rows (inL rows living living)) i == k) :
    ∃ v ∈ (outL rows living living).filter fun i => gapN rows (sortB rows (inL rows living living)) i == k, u ≠ v ∧ relat rows u v = false := by
  obtain ⟨huo, huk⟩ := List.mem_filter.1 hu
  simp only [beq_iff_eq] at huk
  obtain ⟨hul, v, hvl, huv, hrel⟩ := mem_outL.1 huo
  have hvo : v ∈ outL rows living living := mem_outL.2 ⟨hvl, u, hul, fun e => huv e.symm, by rw [relat_symm]; exact hrel⟩
  refine ⟨v, List.mem_filter.2 ⟨hvo, ?_⟩, huv, hrel⟩
  have hin : ∀ i, i ∈ sortB rows (inL rows living living) ↔ i ∈ inL rows living living := fun i => (sortB_perm _ _).mem_iff
  have hlt : ∀ i ∈ sortB rows (inL rows living living), i < n := fun i hi => h.lt i (mem_inL.1 ((hin i).1 hi)).1
  have hpre := fun u hu => gap_prefix h.t (sortB rows (inL rows living living)) u h.inn hlt hu
  have hne : ∀ s u, s ∈ sortB rows (inL rows living living) → u ∈ outL rows living living → s ≠ u := by
    intro s u hs hu e
    subst e
    obtain ⟨_, j, hj, h1, h2⟩ := mem_outL.1 hu
    have := (mem_inL.1 ((hin _).1 hs)).2 j hj h1
    rw [h2] at this; cases this
  have hrl : ∀ s u, s ∈ sortB rows (inL rows living living) → u ∈ outL rows living living → bef rows s u = true ∨ bef rows u s = true := fun s u hs hu => h.rel ((hin s).1 hs) (mem_outL.1 hu).1 (hne s u hs hu)
  have step : ∀ a b, a ∈ outL rows living living → b ∈ outL rows living living → relat rows a b = false → ¬ gapN rows (sortB rows (inL rows living living)) a < gapN rows (sortB rows (inL rows living living)) b := by
    intro a b ha hb hr hlt2
    have han := h.lt a (mem_outL.1 ha).1
    have hbn := h.lt b (mem_outL.1 hb).1
    have hk : gapN rows (sortB rows (inL rows living living)) a < (sortB rows (inL rows living living)).length := by
      have : gapN rows (sortB rows (inL rows living living)) b ≤ (sortB rows (inL rows living living)).length := List.length_filter_le _ _
      omega
    have e := List.getElem?_eq_getElem hk
    have hs := List.getElem_mem hk
    generalize (sortB rows (inL rows living living))[gapN rows (sortB rows (inL rows living living)) a] = s at e hs
    have h1 := (hpre b hbn _ _ e).2 hlt2
    have h2 : bef rows s a = false := by
      cases hb2 : bef rows s a with
      | false => rfl
      | true => have := (hpre a han _ _ e).1 hb2; omega
    have h3 : bef rows a s = true := by
      rcases hrl s a hs ha with h4 | h4
      · rw [h2] at h4; cases h4
      · exact h4
    have h5 := bef_trans h.t han (hlt s hs) hbn h3 h1
    unfold relat at hr
    rw [h5] at hr; cases hr
  have h1 := step u v huo hvo hrel
  have h2 := step v u hvo huo (by rw [relat_symm]; exact hrel)
  simp only [beq_iff_eq]
  omega
end Go.Proofs.Lg

namespace Go.Proofs.Lg
open Go

def Gr.liv (g : Gr) (i : Nat) : Bool := (g.lines[i]?.map (·.living)).getD false
def Gr.okP (g : Gr) (i j : Nat) : Bool := (!g.liv i || !g.liv j) || (g.before i j || g.before j i)
def Gr.certJ (g : Gr) (i m : Nat) : Bool := (List.range m).all (g.okP i)
def Gr.certK (g : Gr) (k : Nat) : Bool := (List.range k).all fun i => g.certJ i i
theorem Gr.certJ_succ (g : Gr) (i m : Nat) : g.certJ i (m + 1) = (g.certJ i m && g.okP i m) := by simp [Gr.certJ, List.range_succ]
theorem Gr.certK_succ (g : Gr) (k : Nat) : g.certK (k + 1) = (g.certK k && g.certJ k k) := by simp [Gr.certK, List.range_succ]

theorem Gr.mem_living {g : Gr} (h : g.check = 0) (i : Nat) : i ∈ g.living ↔ i < g.lines.length ∧ g.liv i = true := by
  unfold Gr.living Gr.liv
  rw [if_pos h]
  unfold livL
  rw [livFrom_mem]
  simp only [Nat.zero_le, true_and, Nat.sub_zero]
  constructor
  · rintro ⟨x, hx, hl⟩
    exact ⟨(List.getElem?_eq_some_iff.1 hx).1, by rw [hx]; exact hl⟩
  · rintro ⟨hi, hl⟩
    rw [List.getElem?_eq_getElem hi] at hl
    exact ⟨_, List.getElem?_eq_getElem hi, hl⟩

theorem Gr.before_relat {g : Gr} (h : g.check = 0) {i j : Nat} (hi : i < g.lines.length) (hj : j < g.lines.length) : (g.before i j || g.before j i) = relat g.reach i j := by
  rw [Gr.before_bef h hi hj, Gr.before_bef h hj hi]; rfl

theorem Gr.cert_iff {g : Gr} (h : g.check = 0) : g.certK g.lines.length = !((regionsL g.reach g.living).any (·.conflict)) := by
  have hc := (regionsL_conflict (rows := g.reach) (living := g.living)).2
  have h1 : ((regionsL g.reach g.living).any (·.conflict)) = true ↔ outL g.reach g.living g.living ≠ [] := by
    rw [List.any_eq_true]; exact hc
  have h2 : g.certK g.lines.length = true ↔ outL g.reach g.living g.living = [] := by
    unfold Gr.certK Gr.certJ
    rw [List.all_eq_true]
    constructor
    · intro hall
      rw [List.eq_nil_iff_forall_not_mem]
      intro u hu
      obtain ⟨hul, v, hvl, huv, hrel⟩ := mem_outL.1 hu
      obtain ⟨hun, hlu⟩ := (Gr.mem_living h u).1 hul
      obtain ⟨hvn, hlv⟩ := (Gr.mem_living h v).1 hvl
      rcases Nat.lt_or_ge v u with hlt | hge
      · have := List.all_eq_true.1 (hall u (List.mem_range.2 hun)) v (List.mem_range.2 hlt)
        unfold Gr.okP at this
        rw [hlu, hlv, Gr.before_relat h hun hvn, hrel] at this
        cases this
      · have hlt : u < v := by omega
        have := List.all_eq_true.1 (hall v (List.mem_range.2 hvn)) u (List.mem_range.2 hlt)
        unfold Gr.okP at this
        rw [hlu, hlv, Gr.before_relat h hvn hun, relat_symm, hrel] at this
        cases this
    · intro he i hi
      rw [List.all_eq_true]
      intro j hj
      have hi := List.mem_range.1 hi
      have hj := List.mem_range.1 hj
      unfold Gr.okP
      cases hli : g.liv i with
      | false => rfl
      | true =>
        cases hlj : g.liv j with
        | false => rfl
        | true =>
          have hjn : j < g.lines.length := by omega
          rw [Gr.before_relat h hi hjn]
          cases hr : relat g.reach i j with
          | true => rfl
          | false =>
            have : i ∈ outL g.reach g.living g.living := mem_outL.2 ⟨(Gr.mem_living h i).2 ⟨hi, hli⟩, j, (Gr.mem_living h j).2 ⟨hjn, hlj⟩, by omega, hr⟩
            rw [he] at this; cases this
  cases hK : g.certK g.lines.length <;> cases hA : (regionsL g.reach g.living).any (·.conflict)
  · have := h2.2 (Classical.byContradiction fun hne => by have := h1.2 hne; rw [hA] at this; cases this)
    rw [hK] at this; cases this
  · rfl
  · rfl
  · exact absurd (h2.1 hK) (h1.1 hA)

/-- What each region of a graph's regions is. -/
def RegsGood (regs : List Reg) : Prop := (∀ r ∈ regs, GoodReg r ∧ Small r) ∧ Alter true regs

theorem len_le_flatten : ∀ l : List (List Nat), (∀ s ∈ l, s ≠ []) → l.length ≤ l.flatten.length
  | [], _ => Nat.le_refl _
  | s :: l, h => by
    have h1 := len_le_flatten l fun t ht => h t (List.mem_cons_of_mem _ ht)
    have h2 := List.length_pos_iff.2 (h s List.mem_cons_self)
    simp only [List.flatten_cons, List.length_append, List.length_cons]
    omega

theorem GoodReg.all_ne {r : Reg} (h : GoodReg r) : r.all ≠ [] := by
  unfold Reg.all
  rcases h with ⟨_, h1, _⟩ | ⟨_, _, h1, h2⟩
  · simp [h1]
  · obtain ⟨s, l, hs⟩ : ∃ s l, r.sides = s :: l := by cases hr : r.sides with | nil => exact absurd hr h1 | cons s l => exact ⟨s, l, rfl⟩
    have := h2 s (by rw [hs]; simp)
    rw [hs]; simp [this]

theorem all_le_seq : ∀ (regs : List Reg) (r : Reg), r ∈ regs → r.all.length ≤ (regs.flatMap Reg.all).length
  | [], _, h => by cases h
  | a :: l, r, h => by
    rw [List.flatMap_cons, List.length_append]
    rcases List.mem_cons.1 h with rfl | h
    · omega
    · have := all_le_seq l r h; omega

theorem regs_le_seq : ∀ (regs : List Reg), (∀ r ∈ regs, GoodReg r) → regs.length ≤ (regs.flatMap Reg.all).length
  | [], _ => Nat.le_refl _
  | a :: l, h => by
    have h1 := regs_le_seq l fun r hr => h r (List.mem_cons_of_mem _ hr)
    have h2 := List.length_pos_iff.2 (h a List.mem_cons_self).all_ne
    rw [List.flatMap_cons, List.length_append, List.length_cons]
    omega

theorem Gr.seq_le (g : Gr) : (seqL g.reach g.living).length ≤ g.lines.length := by
  rw [(seqL_perm g.lv).length_eq]; exact g.living_len

theorem regsGood (g : Gr) (h : g.lines.length ≤ 1000000) : RegsGood (regionsL g.reach g.living) := by
  obtain ⟨h1, h2⟩ := regionsL_good g.lv
  refine ⟨fun r hr => ⟨h1 r hr, ?_⟩, h2⟩
  have h3 := all_le_seq _ r hr
  have h4 := g.seq_le
  unfold seqL at h4
  have h5 : r.all.length ≤ 1000000 := by omega
  unfold Reg.all at h5
  rw [List.length_append] at h5
  refine ⟨?_, by omega⟩
  rcases h1 r hr with ⟨_, _, hs⟩ | ⟨_, _, _, hs⟩
  · rw [hs]; simp
  · have := len_le_flatten r.sides hs; omega

theorem regs_len (g : Gr) (h : g.lines.length ≤ 1000000) : (regionsL g.reach g.living).length ≤ 1000000 := by
  have h1 := regs_le_seq _ (regionsL_good g.lv).1
  have h4 := g.seq_le
  unfold seqL at h4
  omega
end Go.Proofs.Lg

namespace Go.Proofs.Lg

/-- The lines of L stand to one another in rows as their images in rows'; their order by number is kept. -/
structure SameO (f : Nat → Nat) (L : List Nat) (rows rows' : List (List Bool)) : Prop where
  mono : ∀ i ∈ L, ∀ j ∈ L, i < j → f i < f j
  rel : ∀ i ∈ L, ∀ j ∈ L, i ≠ j → rel rows' (f i) (f j) = rel rows i j

theorem any_map_congr {f : Nat → Nat} {l : List Nat} {p q : Nat → Bool} (hp : ∀ x ∈ l, p (f x) = q x) : (l.map f).any p = l.any q := by
  induction l with
  | nil => rfl
  | cons x l ih =>
    rw [List.map_cons, List.any_cons, List.any_cons, hp x (by simp), ih fun y hy => hp y (by simp [hy])]
theorem filter_map_congr {f : Nat → Nat} {l : List Nat} {p q : Nat → Bool} (hp : ∀ x ∈ l, p (f x) = q x) : (l.map f).filter p = (l.filter q).map f := by
  induction l with
  | nil => rfl
  | cons x l ih =>
    rw [List.map_cons, List.filter_cons, List.filter_cons, hp x (by simp), ih fun y hy => hp y (by simp [hy])]
    split <;> rfl

theorem idxF_map {f : Nat → Nat} {p q : Int → Bool} : ∀ (l : List Nat) (k : Nat), (∀ x ∈ l, p (Int.ofNat (f x)) = q (Int.ofNat x)) → idxF p k (nats (l.map f)) = idxF q k (nats l)
  | [], _, _ => rfl
  | x :: l, k, hp => by
    simp only [nats, List.map_cons, idxF]
    rw [hp x (by simp)]
    have := idxF_map l (k + 1) fun y hy => hp y (by simp [hy])
    simp only [nats] at this
    rw [this]
section
variable {f : Nat → Nat} {L : List Nat} {rows rows' : List (List Bool)} (h : SameO f L rows rows')
include h

theorem SameO.inj {i j : Nat} (hi : i ∈ L) (hj : j ∈ L) (e : f i = f j) : i = j := by
  rcases Nat.lt_trichotomy i j with h1 | h1 | h1
  · have := h.mono i hi j hj h1; omega
  · exact h1
  · have := h.mono j hj i hi h1; omega
theorem SameO.ne {i j : Nat} (hi : i ∈ L) (hj : j ∈ L) : (f i = f j) ↔ (i = j) := ⟨h.inj hi hj, fun e => by rw [e]⟩
theorem SameO.le {i j : Nat} (hi : i ∈ L) (hj : j ∈ L) : (f i ≤ f j) ↔ (i ≤ j) := by
  constructor
  · intro e
    rcases Nat.lt_or_ge j i with h1 | h1
    · have := h.mono j hj i hi h1; omega
    · exact h1
  · intro e
    rcases Nat.lt_or_eq_of_le e with h1 | h1
    · have := h.mono i hi j hj h1; omega
    · subst h1; exact Nat.le_refl _
theorem SameO.bef {i j : Nat} (hi : i ∈ L) (hj : j ∈ L) : bef rows' (f i) (f j) = Lg.bef rows i j := by
  by_cases e : i = j
  · subst e; rw [bef_irrefl, bef_irrefl]
  · unfold Lg.bef
    rw [h.rel i hi j hj e, h.rel j hj i hi (Ne.symm e)]
theorem SameO.relat {i j : Nat} (hi : i ∈ L) (hj : j ∈ L) : relat rows' (f i) (f j) = Lg.relat rows i j := by
  unfold Lg.relat
  rw [h.bef hi hj, h.bef hj hi]
theorem SameO.adj {i j : Nat} (hi : i ∈ L) (hj : j ∈ L) (e : i ≠ j) : adj rows' (f i) (f j) = Lg.adj rows i j := by
  unfold Lg.adj
  rw [h.relat hi hj, h.rel i hi j hj e, h.rel j hj i hi (Ne.symm e)]

theorem SameO.contains {S : List Nat} (hS : ∀ x ∈ S, x ∈ L) {j : Nat} (hj : j ∈ L) : (S.map f).contains (f j) = S.contains j := by
  rw [Bool.eq_iff_iff, List.contains_iff_mem, List.contains_iff_mem, List.mem_map]
  constructor
  · rintro ⟨x, hx, e⟩
    rw [← h.inj (hS x hx) hj e]; exact hx
  · exact fun hx => ⟨j, hx, rfl⟩

theorem SameO.unset {l : List Nat} (hl : ∀ x ∈ l, x ∈ L) {i : Nat} (hi : i ∈ L) : unset rows' (l.map f) (f i) = Lg.unset rows l i := by
  unfold Lg.unset
  refine any_map_congr fun x hx => ?_
  rw [h.relat hi (hl x hx)]
  congr 1
  have := h.ne hi (hl x hx)
  simp only [ne_eq, this]
theorem SameO.inL {l : List Nat} (hl : ∀ x ∈ l, x ∈ L) : inL rows' (l.map f) (l.map f) = (Lg.inL rows l l).map f :=
  filter_map_congr fun x hx => by rw [h.unset hl (hl x hx)]
theorem SameO.outL {l : List Nat} (hl : ∀ x ∈ l, x ∈ L) : outL rows' (l.map f) (l.map f) = (Lg.outL rows l l).map f :=
  filter_map_congr fun x hx => by rw [h.unset hl (hl x hx)]
theorem SameO.gapN {l : List Nat} (hl : ∀ x ∈ l, x ∈ L) {i : Nat} (hi : i ∈ L) : gapN rows' (l.map f) (f i) = Lg.gapN rows l i := by
  unfold Lg.gapN
  rw [filter_map_congr (q := fun j => Lg.bef rows j i) fun x hx => h.bef (hl x hx) hi, List.length_map]
theorem SameO.sortB {l : List Nat} (hl : ∀ x ∈ l, x ∈ L) : sortB rows' (l.map f) = (Lg.sortB rows l).map f := by
  unfold Lg.sortB
  exact (List.map_mergeSort fun a ha b hb => by rw [h.bef (hl b hb) (hl a ha)]).symm
theorem SameO.sortI {l : List Nat} (hl : ∀ x ∈ l, x ∈ L) : sortI (l.map f) = (Lg.sortI l).map f := by
  unfold Lg.sortI
  exact (List.map_mergeSort fun a ha b hb => by simp only [h.le (hl a ha) (hl b hb)]).symm

theorem SameO.pickK {l : List Nat} (hl : ∀ x ∈ l, x ∈ L) : pickK rows' (l.map f) = Lg.pickK rows l := by
  unfold Lg.pickK
  congr 1
  refine idxF_map l 0 fun x hx => ?_
  simp only [Int.ofNat_eq_natCast, Int.toNat_natCast]
  congr 1
  exact any_map_congr fun y hy => h.bef (hl y hy) (hl x hx)
theorem SameO.arrN : ∀ (n : Nat) (l : List Nat), (∀ x ∈ l, x ∈ L) → arrN rows' n (l.map f) = (Lg.arrN rows n l).map f
  | 0, _, _ => rfl
  | n + 1, l, hl => by
    by_cases hne : l = []
    · subst hne; rfl
    · have hne' : l.map f ≠ [] := by simpa using hne
      have hk := pickK_lt (rows := rows) hne
      simp only [Lg.arrN, if_neg hne, if_neg hne', h.pickK hl, List.map_cons]
      congr 1
      · simp [List.getD_eq_getElem?_getD, List.getElem?_eq_getElem hk]
      · rw [List.eraseIdx_eq_take_drop_succ, ← List.map_take, ← List.map_drop, ← List.map_append, ← List.eraseIdx_eq_take_drop_succ]
        exact SameO.arrN n _ fun x hx => hl x (List.mem_of_mem_eraseIdx hx)
theorem SameO.arrL {l : List Nat} (hl : ∀ x ∈ l, x ∈ L) : arrL rows' (l.map f) = (Lg.arrL rows l).map f := by
  unfold Lg.arrL
  rw [h.sortI hl, List.length_map]
  exact h.arrN _ _ fun x hx => hl x ((sortI_perm l).mem_iff.1 hx)

/-- A walk through the lines not yet seen, told of both. -/
structure Vis (f : Nat → Nat) (L S : List Nat) (r r' : List Nat × List Nat) : Prop where
  eq : r' = (r.1.map f, r.2.map f)
  one : ∀ x ∈ r.1, x ∈ L
  two : ∀ x ∈ r.2, x ∈ L
  sub : ∀ x ∈ S, x ∈ r.2

theorem SameO.fold {i : Nat} (hi : i ∈ L) {G G' : List Nat → Nat → List Nat × List Nat} (hG : ∀ S j, (∀ x ∈ S, x ∈ L) → j ∈ L → Vis f L S (G S j) (G' (S.map f) (f j))) : ∀ (t : List Nat) (c : List Nat × List Nat), (∀ x ∈ t, x ∈ L) → (∀ x ∈ c.1, x ∈ L) → (∀ x ∈ c.2, x ∈ L) → i ∈ c.2 →
    Vis f L c.2 (t.foldl (vstep rows i G) c) ((t.map f).foldl (vstep rows' (f i) G') (c.1.map f, c.2.map f))
  | [], c, _, h1, h2, _ => ⟨rfl, h1, h2, fun _ hx => hx⟩
  | j :: t, c, ht, h1, h2, hic => by
    have hj : j ∈ L := ht j (by simp)
    have ht' : ∀ x ∈ t, x ∈ L := fun x hx => ht x (by simp [hx])
    rw [List.map_cons, List.foldl_cons, List.foldl_cons]
    have hcon := h.contains h2 hj
    by_cases hc : c.2.contains j = true
    · have e1 : vstep rows i G c j = c := by unfold vstep; rw [hc]; rfl
      have e2 : vstep rows' (f i) G' (c.1.map f, c.2.map f) (f j) = (c.1.map f, c.2.map f) := by unfold vstep; dsimp only; rw [hcon, hc]; rfl
      rw [e1, e2]
      exact SameO.fold hi hG t c ht' h1 h2 hic
    · have hne : i ≠ j := fun e => hc (by subst e; exact List.contains_iff_mem.2 hic)
      have hc' : c.2.contains j = false := by simpa using hc
      have hadj := h.adj hi hj hne
      cases ha : Lg.adj rows i j with
      | false =>
        have e1 : vstep rows i G c j = c := by unfold vstep; rw [ha, Bool.and_false]; rfl
        have e2 : vstep rows' (f i) G' (c.1.map f, c.2.map f) (f j) = (c.1.map f, c.2.map f) := by unfold vstep; rw [hadj, ha, Bool.and_false]; rfl
        rw [e1, e2]
        exact SameO.fold hi hG t c ht' h1 h2 hic
      | true =>
        obtain ⟨g1, g2, g3, g4⟩ := hG c.2 j h2 hj
        have e1 : vstep rows i G c j = (c.1 ++ (G c.2 j).1, (G c.2 j).2) := by unfold vstep; rw [ha, hc']; rfl
        have e2 : vstep rows' (f i) G' (c.1.map f, c.2.map f) (f j) = ((c.1 ++ (G c.2 j).1).map f, ((G c.2 j).2).map f) := by
          unfold vstep; dsimp only; rw [hadj, ha, hcon, hc', g1, List.map_append]; rfl
        rw [e1, e2]
        obtain ⟨k1, k2, k3, k4⟩ := SameO.fold hi hG t (c.1 ++ (G c.2 j).1, (G c.2 j).2) ht' (fun x hx => by
          rcases List.mem_append.1 hx with hx | hx
          · exact h1 x hx
          · exact g2 x hx) g3 (g4 i hic)
        exact ⟨k1, k2, k3, fun x hx => k4 x (g4 x hx)⟩

theorem SameO.visit {l : List Nat} (hl : ∀ x ∈ l, x ∈ L) : ∀ (n : Nat) (S : List Nat) (i : Nat), (∀ x ∈ S, x ∈ L) → i ∈ L → Vis f L S (Lg.visit rows l n S i) (Lg.visit rows' (l.map f) n (S.map f) (f i))
  | 0, S, i, hS, hi => by
    have hs : ∀ x ∈ i :: S, x ∈ L := fun x hx => by
      rcases List.mem_cons.1 hx with rfl | hx
      · exact hi
      · exact hS x hx
    obtain ⟨k1, k2, k3, k4⟩ := h.fold hi (G := fun S _ => ([], S)) (G' := fun S _ => ([], S)) (fun S j hS _ => ⟨rfl, by simp, hS, fun _ hx => hx⟩) l ([i], i :: S) hl (by simpa using hi) hs (by simp)
    exact ⟨k1, k2, k3, fun x hx => k4 x (by simp [hx])⟩
  | n + 1, S, i, hS, hi => by
    have hs : ∀ x ∈ i :: S, x ∈ L := fun x hx => by
      rcases List.mem_cons.1 hx with rfl | hx
      · exact hi
      · exact hS x hx
    obtain ⟨k1, k2, k3, k4⟩ := h.fold hi (G := Lg.visit rows l n) (G' := Lg.visit rows' (l.map f) n) (fun S j hS hj => SameO.visit hl n S j hS hj) l ([i], i :: S) hl (by simpa using hi) hs (by simp)
    exact ⟨k1, k2, k3, fun x hx => k4 x (by simp [hx])⟩

theorem SameO.classesS {l : List Nat} (hl : ∀ x ∈ l, x ∈ L) : ∀ (t : List Nat) (c : List (List Nat) × List Nat), (∀ x ∈ t, x ∈ L) → (∀ x ∈ c.2, x ∈ L) →
    (t.map f).foldl (cstep rows' (l.map f)) (c.1.map fun s => s.map f, c.2.map f) = ((t.foldl (cstep rows l) c).1.map fun s => s.map f, (t.foldl (cstep rows l) c).2.map f)
  | [], _, _, _ => rfl
  | i :: t, c, ht, hc => by
    have hi : i ∈ L := ht i (by simp)
    have ht' : ∀ x ∈ t, x ∈ L := fun x hx => ht x (by simp [hx])
    rw [List.map_cons, List.foldl_cons, List.foldl_cons]
    have hcon := h.contains hc hi
    by_cases hci : c.2.contains i = true
    · have e1 : cstep rows l c i = c := by unfold cstep; rw [if_pos hci]
      have e2 : cstep rows' (l.map f) (c.1.map fun s => s.map f, c.2.map f) (f i) = (c.1.map fun s => s.map f, c.2.map f) := by unfold cstep; dsimp only; rw [hcon, if_pos hci]
      rw [e1, e2]
      exact SameO.classesS hl t c ht' hc
    · obtain ⟨k1, k2, k3, _⟩ := h.visit hl l.length c.2 i hc hi
      have e1 : cstep rows l c i = (c.1 ++ [Lg.arrL rows (Lg.visit rows l l.length c.2 i).1], (Lg.visit rows l l.length c.2 i).2) := by unfold cstep; rw [if_neg hci]
      have e2 : cstep rows' (l.map f) (c.1.map fun s => s.map f, c.2.map f) (f i) = ((c.1 ++ [Lg.arrL rows (Lg.visit rows l l.length c.2 i).1]).map fun s => s.map f, (Lg.visit rows l l.length c.2 i).2.map f) := by
        unfold cstep; dsimp only
        rw [hcon, if_neg hci, List.length_map, k1]
        dsimp only
        rw [h.arrL k2, List.map_append]; rfl
      rw [e1, e2]
      exact SameO.classesS hl t (c.1 ++ [Lg.arrL rows (Lg.visit rows l l.length c.2 i).1], (Lg.visit rows l l.length c.2 i).2) ht' k3
theorem SameO.classesL {l : List Nat} (hl : ∀ x ∈ l, x ∈ L) : classesL rows' (l.map f) = (Lg.classesL rows l).map fun s => s.map f := by
  unfold Lg.classesL Lg.classesS
  have := h.classesS hl l ([], []) hl (by simp)
  simp only [List.map_nil] at this
  rw [this]

def mapR (f : Nat → Nat) (r : Reg) : Reg := ⟨r.conflict, r.lines.map f, r.sides.map fun s => s.map f⟩

theorem SameO.regStep {inn out : List Nat} (hin : ∀ x ∈ inn, x ∈ L) (hout : ∀ x ∈ out, x ∈ L) (c : List Reg × List Nat) (n : Nat) :
    regStep rows' (inn.map f) (out.map f) (c.1.map (mapR f), c.2.map f) n = ((Lg.regStep rows inn out c n).1.map (mapR f), (Lg.regStep rows inn out c n).2.map f) := by
  have hg : ((out.map f).filter fun i => Lg.gapN rows' (inn.map f) i == n) = (out.filter fun i => Lg.gapN rows inn i == n).map f := filter_map_congr fun x hx => by rw [h.gapN hin (hout x hx)]
  have hcl := h.classesL (l := out.filter fun i => Lg.gapN rows inn i == n) fun x hx => hout x (List.mem_filter.1 hx).1
  unfold Lg.regStep
  dsimp only
  rw [hg, List.getElem?_map, hcl]
  generalize out.filter (fun i => Lg.gapN rows inn i == n) = g
  by_cases hg0 : g = [] <;> by_cases hc0 : c.2 = [] <;> cases inn[n]? <;> simp [hg0, hc0, mapR]
theorem SameO.regRun {inn out : List Nat} (hin : ∀ x ∈ inn, x ∈ L) (hout : ∀ x ∈ out, x ∈ L) : ∀ n : Nat, regRun rows' (inn.map f) (out.map f) n = ((Lg.regRun rows inn out n).1.map (mapR f), (Lg.regRun rows inn out n).2.map f)
  | 0 => rfl
  | n + 1 => by rw [regRun_succ, regRun_succ, SameO.regRun hin hout n, h.regStep hin hout]
theorem SameO.regionsL {l : List Nat} (hl : ∀ x ∈ l, x ∈ L) : regionsL rows' (l.map f) = (Lg.regionsL rows l).map (mapR f) := by
  have hin : ∀ x ∈ Lg.sortB rows (Lg.inL rows l l), x ∈ L := fun x hx => hl x (List.mem_filter.1 ((sortB_perm _ _).mem_iff.1 hx)).1
  have hout : ∀ x ∈ Lg.outL rows l l, x ∈ L := fun x hx => hl x (List.mem_filter.1 hx).1
  unfold Lg.regionsL
  rw [h.inL hl, h.outL hl, h.sortB (l := Lg.inL rows l l) fun x hx => hl x (List.mem_filter.1 hx).1, List.length_map, h.regRun hin hout]
  generalize Lg.regRun rows _ _ _ = c
  unfold regEnd
  by_cases hc : c.2 = [] <;> simp [hc, mapR]
end
end Go.Proofs.Lg

namespace Go.Proofs.Lg

/-- A path whose inner lines are below k. -/
inductive PathB (E : Nat → Nat → Prop) (k : Nat) (i : Nat) : Nat → Prop
  | edge {j : Nat} : E i j → PathB E k i j
  | step {m j : Nat} : PathB E k i m → m < k → E m j → PathB E k i j

theorem PathB.mono {E : Nat → Nat → Prop} {k k' i j : Nat} (h : PathB E k i j) (hk : k ≤ k') : PathB E k' i j := by
  induction h with
  | edge h => exact .edge h
  | step _ h2 h3 ih => exact .step ih (by omega) h3

theorem PathB.trans {E : Nat → Nat → Prop} {k i m j : Nat} (h : PathB E k i m) (hm : m < k) (h2 : PathB E k m j) : PathB E k i j := by
  induction h2 with
  | edge h3 => exact .step h hm h3
  | step _ h4 h5 ih => exact .step ih h4 h5

theorem PathB.split {E : Nat → Nat → Prop} {k i j : Nat} (h : PathB E (k + 1) i j) : PathB E k i j ∨ (PathB E k i k ∧ PathB E k k j) := by
  induction h with
  | edge h => exact .inl (.edge h)
  | step h1 h2 h3 ih =>
    rename_i m j
    by_cases hm : m = k
    · subst hm
      rcases ih with h | ⟨h, _⟩
      · exact .inr ⟨h, .edge h3⟩
      · exact .inr ⟨h, .edge h3⟩
    · rcases ih with h | ⟨h, h'⟩
      · exact .inl (.step h (by omega) h3)
      · exact .inr ⟨h, .step h' (by omega) h3⟩

def putR (rows : List (List Bool)) (i j : Nat) (b : Bool) : List (List Bool) := rows.set i ((rows.getD i []).set j b)

theorem rel_putR {n : Nat} {rows : List (List Bool)} (hq : Sq n rows) {i j : Nat} (hi : i < n) (hj : j < n) (b : Bool) (x y : Nat) : rel (putR rows i j b) x y = if x = i ∧ y = j then b else rel rows x y := by
  have hil : i < rows.length := by rw [hq.1]; exact hi
  have hrow : (rows.getD i []).length = n := by rw [List.getD_eq_getElem?_getD, List.getElem?_eq_getElem hil]; exact hq.2 _ (List.getElem_mem _)
  unfold rel putR
  simp only [List.getD_eq_getElem?_getD, List.getElem?_set] at hrow ⊢
  by_cases hx : x = i
  · subst hx
    by_cases hy : y = j
    · subst hy
      simp [hil, List.getElem?_set]
      simp [List.getElem?_eq_getElem hil] at hrow
      simp [hrow, hj]
    · have hy' : ¬ j = y := fun e => hy e.symm
      simp [hil, hy, hy']
  · have hx' : ¬ i = x := fun e => hx e.symm
    simp [hx, hx']

theorem sq_putR {n : Nat} {rows : List (List Bool)} (hq : Sq n rows) {i j : Nat} (hi : i < n) (b : Bool) : Sq n (putR rows i j b) := by
  have hil : i < rows.length := by rw [hq.1]; exact hi
  refine ⟨by unfold putR; rw [List.length_set]; exact hq.1, fun r hr => ?_⟩
  unfold putR at hr
  rcases List.mem_or_eq_of_mem_set hr with h | h
  · exact hq.2 r h
  · rw [h, List.length_set, List.getD_eq_getElem?_getD, List.getElem?_eq_getElem hil]; exact hq.2 _ (List.getElem_mem _)

/-- What holds of the table all the time: true entries are paths; it only grows. -/
structure WInv (E : Nat → Nat → Prop) (n : Nat) (R₀ R : List (List Bool)) : Prop where
  sq : Sq n R
  sound : ∀ i j, i < n → j < n → rel R i j = true → PathB E n i j
  grow : ∀ i j, rel R₀ i j = true → rel R i j = true

def wput (R : List (List Bool)) (k i j : Nat) : List (List Bool) := putR R i j (rel R i j || (rel R i k && rel R k j))
def warJ (k i : Nat) (R : List (List Bool)) (m : Nat) : List (List Bool) := (List.range m).foldl (fun R j => wput R k i j) R
def warI (n k : Nat) (R : List (List Bool)) (m : Nat) : List (List Bool) := (List.range m).foldl (fun R i => warJ k i R n) R
def war (n : Nat) (R : List (List Bool)) (m : Nat) : List (List Bool) := (List.range m).foldl (fun R k => warI n k R n) R

theorem wput_inv {E : Nat → Nat → Prop} {n k i j : Nat} {R₀ R : List (List Bool)} (h : WInv E n R₀ R) (hk : k < n) (hi : i < n) (hj : j < n) :
    WInv E n R₀ (wput R k i j) ∧ (∀ x y, rel R x y = true → rel (wput R k i j) x y = true) ∧ ((rel R i j || (rel R i k && rel R k j)) = true → rel (wput R k i j) i j = true) := by
  have hg : ∀ x y, rel R x y = true → rel (wput R k i j) x y = true := fun x y hxy => by
    unfold wput
    rw [rel_putR h.sq hi hj]
    split
    · rename_i hh; obtain ⟨rfl, rfl⟩ := hh; simp [hxy]
    · exact hxy
  refine ⟨⟨sq_putR h.sq hi _, fun x y hx hy hxy => ?_, fun x y hxy => hg x y (h.grow x y hxy)⟩, hg, fun hh => ?_⟩
  · unfold wput at hxy
    rw [rel_putR h.sq hi hj] at hxy
    split at hxy
    · rename_i hh
      obtain ⟨rfl, rfl⟩ := hh
      simp only [Bool.or_eq_true, Bool.and_eq_true] at hxy
      rcases hxy with h1 | ⟨h1, h2⟩
      · exact h.sound _ _ hx hy h1
      · exact (h.sound _ _ hx hk h1).trans hk (h.sound _ _ hk hy h2)
    · exact h.sound x y hx hy hxy
  · unfold wput
    rw [rel_putR h.sq hi hj]
    simp [hh]

theorem warJ_succ (k i : Nat) (R : List (List Bool)) (m : Nat) : warJ k i R (m + 1) = wput (warJ k i R m) k i m := by unfold warJ; rw [List.range_succ, List.foldl_append]; rfl
theorem warI_succ (n k : Nat) (R : List (List Bool)) (m : Nat) : warI n k R (m + 1) = warJ k m (warI n k R m) n := by unfold warI; rw [List.range_succ, List.foldl_append]; rfl
theorem war_succ (n : Nat) (R : List (List Bool)) (m : Nat) : war n R (m + 1) = warI n m (war n R m) n := by unfold war; rw [List.range_succ, List.foldl_append]; rfl

theorem warJ_inv {E : Nat → Nat → Prop} {n k i : Nat} {R : List (List Bool)} (h : WInv E n R R) (hk : k < n) (hi : i < n) : ∀ m, m ≤ n → WInv E n R (warJ k i R m) ∧ ∀ j, j < m → (rel R i j || (rel R i k && rel R k j)) = true → rel (warJ k i R m) i j = true
  | 0, _ => ⟨h, fun j hj => by omega⟩
  | m + 1, hm => by
    obtain ⟨h1, h2⟩ := warJ_inv h hk hi m (by omega)
    obtain ⟨k1, k2, k3⟩ := wput_inv h1 hk hi (show m < n by omega)
    rw [warJ_succ]
    refine ⟨k1, fun j hj hh => ?_⟩
    by_cases hjm : j = m
    · subst hjm
      refine k3 ?_
      simp only [Bool.or_eq_true, Bool.and_eq_true] at hh ⊢
      rcases hh with a | ⟨a, b⟩
      · exact .inl (h1.grow _ _ a)
      · exact .inr ⟨h1.grow _ _ a, h1.grow _ _ b⟩
    · exact k2 _ _ (h2 j (by omega) hh)

theorem warI_inv {E : Nat → Nat → Prop} {n k : Nat} {R : List (List Bool)} (h : WInv E n R R) (hk : k < n) : ∀ m, m ≤ n → WInv E n R (warI n k R m) ∧ ∀ i, i < m → ∀ j, j < n → (rel R i j || (rel R i k && rel R k j)) = true → rel (warI n k R m) i j = true
  | 0, _ => ⟨h, fun j hj => by omega⟩
  | m + 1, hm => by
    obtain ⟨h1, h2⟩ := warI_inv h hk m (by omega)
    obtain ⟨k1, k2⟩ := warJ_inv (i := m) (R := warI n k R m) ⟨h1.sq, h1.sound, fun _ _ h => h⟩ hk (by omega) n (Nat.le_refl _)
    rw [warI_succ]
    refine ⟨⟨k1.sq, k1.sound, fun i j hij => k1.grow _ _ (h1.grow _ _ hij)⟩, fun i hi j hj hh => ?_⟩
    by_cases him : i = m
    · subst him
      refine k2 j hj ?_
      simp only [Bool.or_eq_true, Bool.and_eq_true] at hh ⊢
      rcases hh with a | ⟨a, b⟩
      · exact .inl (h1.grow _ _ a)
      · exact .inr ⟨h1.grow _ _ a, h1.grow _ _ b⟩
    · exact k1.grow _ _ (h2 i (by omega) j hj hh)

theorem war_inv {E : Nat → Nat → Prop} {n : Nat} {R : List (List Bool)} (h : WInv E n R R) (h0 : ∀ i j, i < n → j < n → E i j → rel R i j = true) : ∀ m, m ≤ n → WInv E n R (war n R m) ∧ ∀ i j, i < n → j < n → PathB E m i j → rel (war n R m) i j = true
  | 0, _ => ⟨h, fun i j hi hj hp => by
      cases hp with
      | edge he => exact h0 i j hi hj he
      | step _ h2 _ => omega⟩
  | m + 1, hm => by
    obtain ⟨h1, h2⟩ := war_inv h h0 m (by omega)
    obtain ⟨k1, k2⟩ := warI_inv (k := m) (R := war n R m) ⟨h1.sq, h1.sound, fun _ _ h => h⟩ (by omega) n (Nat.le_refl _)
    rw [war_succ]
    refine ⟨⟨k1.sq, k1.sound, fun i j hij => k1.grow _ _ (h1.grow _ _ hij)⟩, fun i j hi hj hp => k2 i hi j hj ?_⟩
    simp only [Bool.or_eq_true, Bool.and_eq_true]
    rcases hp.split with a | ⟨a, b⟩
    · exact .inl (h2 i j hi hj a)
    · exact .inr ⟨h2 i m hi (by omega) a, h2 m j (by omega) hj b⟩
end Go.Proofs.Lg

namespace Go.Proofs.Lg

/-- The table when the edges are in it. -/
def addE (R : List (List Bool)) (e : Int × Int) : List (List Bool) := if 0 ≤ e.1 ∧ 0 ≤ e.2 then putR R e.1.toNat e.2.toNat true else R
def edgeT (n : Nat) (es : List (Int × Int)) : List (List Bool) := es.foldl addE (List.replicate n (List.replicate n false))
theorem edgeT_take {n : Nat} {es : List (Int × Int)} {k : Nat} (hk : k < es.length) : edgeT n (es.take (k + 1)) = addE (edgeT n (es.take k)) es[k] := by
  rw [List.take_succ_eq_append_getElem hk]
  unfold edgeT
  rw [List.foldl_append]; rfl

def IsE (es : List (Int × Int)) (i j : Nat) : Prop := ((i : Int), (j : Int)) ∈ es

theorem edgeT_go {n : Nat} : ∀ (es : List (Int × Int)) (R : List (List Bool)), okEdges n es → Sq n R → Sq n (es.foldl addE R) ∧ ∀ i j, i < n → j < n → (rel (es.foldl addE R) i j = true ↔ rel R i j = true ∨ IsE es i j)
  | [], R, _, hq => ⟨hq, fun i j _ _ => by simp [IsE]⟩
  | e :: es, R, ho, hq => by
    have he := ho e (by simp)
    have hq2 : Sq n (addE R e) := by
      unfold addE; split
      · exact sq_putR hq (by omega) _
      · exact hq
    obtain ⟨h1, h2⟩ := edgeT_go es (addE R e) (fun x hx => ho x (by simp [hx])) hq2
    refine ⟨h1, fun i j hi hj => ?_⟩
    rw [List.foldl_cons, h2 i j hi hj]
    have : rel (addE R e) i j = true ↔ rel R i j = true ∨ e = ((i : Int), (j : Int)) := by
      unfold addE
      obtain ⟨a, b⟩ := e
      dsimp only at he ⊢
      split
      · rw [rel_putR hq (by omega) (by omega)]
        split
        · rename_i hh; simp; right; omega
        · rename_i hh
          simp only [Prod.mk.injEq]
          constructor
          · exact .inl
          · rintro (h | h)
            · exact h
            · exact absurd ⟨by omega, by omega⟩ hh
      · rename_i hh
        simp only [Prod.mk.injEq]
        constructor
        · exact .inl
        · rintro (h | h)
          · exact h
          · exact absurd ⟨by omega, by omega⟩ hh
    rw [this]
    unfold IsE
    rw [List.mem_cons]
    constructor
    · rintro ((h | h) | h)
      · exact .inl h
      · exact .inr (.inl h.symm)
      · exact .inr (.inr h)
    · rintro (h | h | h)
      · exact .inl (.inl h)
      · exact .inl (.inr h.symm)
      · exact .inr h

theorem rel_repl (n i j : Nat) : rel (List.replicate n (List.replicate n false)) i j = false := by
  unfold rel
  by_cases hi : i < n
  · have : (List.replicate n (List.replicate n false)).getD i [] = List.replicate n false := by simp [List.getD_eq_getElem?_getD, List.getElem?_replicate, hi]
    rw [this]; exact getD_repl n j
  · have : (List.replicate n (List.replicate n false)).getD i [] = [] := by simp [List.getD_eq_getElem?_getD, List.getElem?_replicate, hi]
    rw [this]; rfl

theorem fol_mem : ∀ (es : List (Int × Int)) (rows : List (List Int)) (i : Nat) (x : Int), i < rows.length → (x ∈ (es.foldl folStep rows).getD i [] ↔ x ∈ rows.getD i [] ∨ (0 ≤ x ∧ ((i : Int), x) ∈ es))
  | [], rows, i, x, _ => by simp
  | e :: es, rows, i, x, hi => by
    rw [List.foldl_cons, fol_mem es _ i x (by rw [folStep_length]; exact hi)]
    obtain ⟨a, b⟩ := e
    have : x ∈ (folStep rows (a, b)).getD i [] ↔ x ∈ rows.getD i [] ∨ (0 ≤ x ∧ ((i : Int), x) = (a, b)) := by
      unfold folStep
      dsimp only
      split
      · rename_i hh
        rw [List.getD_eq_getElem?_getD, List.getD_eq_getElem?_getD, List.getElem?_modify, List.getElem?_eq_getElem hi]
        simp only [Option.map_eq_map, Option.map_some, Option.getD_some, Prod.mk.injEq]
        split
        · rename_i e
          rw [List.mem_append, List.mem_singleton]
          constructor
          · rintro (h | h)
            · exact .inl h
            · exact .inr ⟨by omega, by omega, h⟩
          · rintro (h | h)
            · exact .inl h
            · exact .inr h.2.2
        · rename_i e
          constructor
          · exact .inl
          · rintro (h | h)
            · exact h
            · exact absurd (by omega) e
      · rename_i hh
        simp only [Prod.mk.injEq]
        constructor
        · exact .inl
        · rintro (h | h)
          · exact h
          · exact absurd ⟨by omega, by omega⟩ hh
    rw [this, List.mem_cons]
    constructor
    · rintro ((h | ⟨h, h'⟩) | ⟨h, h'⟩)
      · exact .inl h
      · exact .inr ⟨h, .inl h'⟩
      · exact .inr ⟨h, .inr h'⟩
    · rintro (h | ⟨h, h' | h'⟩)
      · exact .inl (.inl h)
      · exact .inl (.inr ⟨h, h'⟩)
      · exact .inr ⟨h, h'⟩

theorem fol_E {g : Gr} {i : Nat} (hi : i < g.lines.length) (x : Int) : x ∈ g.followers.getD i [] ↔ 0 ≤ x ∧ ((i : Int), x) ∈ g.edges := by
  unfold Gr.followers
  rw [fol_mem _ _ i x (by simpa using hi)]
  have : (List.replicate g.lines.length ([] : List Int)).getD i [] = [] := by
    rw [List.getD_eq_getElem?_getD, List.getElem?_replicate]; split <;> rfl
  rw [this]; simp

theorem sq_ext {n : Nat} {R S : List (List Bool)} (hR : Sq n R) (hS : Sq n S) (h : ∀ i j, i < n → j < n → rel R i j = rel S i j) : R = S := by
  refine List.ext_getElem (by rw [hR.1, hS.1]) fun i h1 h2 => ?_
  have l1 : R[i].length = n := hR.2 _ (List.getElem_mem _)
  have l2 : S[i].length = n := hS.2 _ (List.getElem_mem _)
  refine List.ext_getElem (by rw [l1, l2]) fun j g1 g2 => ?_
  have := h i j (by rw [← hR.1]; exact h1) (by omega)
  unfold rel at this
  simpa [List.getD_eq_getElem?_getD, List.getElem?_eq_getElem, h1, h2, g1, g2] using this

/-- The reference's table is the program's. -/
theorem war_reach {g : Gr} (hc : g.check = 0) : war g.lines.length (edgeT g.lines.length g.edges) g.lines.length = g.reach := by
  have hok := (Gr.check_ok hc).2
  generalize hn : g.lines.length = n at hok
  have hq0 : Sq n (List.replicate n (List.replicate n false)) := ⟨by simp, fun r hr => by simp at hr; simp [hr.2]⟩
  obtain ⟨hq, he⟩ := edgeT_go g.edges _ hok hq0
  have he' : ∀ i j, i < n → j < n → (rel (edgeT n g.edges) i j = true ↔ IsE g.edges i j) := fun i j hi hj => by
    have := he i j hi hj
    rw [rel_repl] at this
    unfold edgeT
    rw [this]; simp
  have hW : WInv (IsE g.edges) n (edgeT n g.edges) (edgeT n g.edges) := ⟨hq, fun i j hi hj h => .edge ((he' i j hi hj).1 h), fun _ _ h => h⟩
  obtain ⟨h1, h2⟩ := war_inv hW (fun i j hi hj h => (he' i j hi hj).2 h) n (Nat.le_refl _)
  have hdim : g.dim = n := by unfold Gr.dim; rw [if_pos hc, hn]
  refine sq_ext h1.sq (by have := g.sq; rwa [hdim] at this) fun i j hi hj => ?_
  have hfl := g.followers_length
  rw [hn] at hfl
  have hval := Gr.followers_valid (Gr.check_ok hc).2
  rw [hfl] at hval
  have hreach : rel g.reach i j = (fromRow g.followers i).getD j false := by
    unfold Gr.reach
    rw [if_pos hc, hn, rel_rows _ _ _ _ hi]
  rw [hreach, Bool.eq_iff_iff]
  obtain ⟨f1, f2, f3⟩ := fromRow_spec g.followers n hfl hval i hi
  have hE : ∀ {a b : Nat}, a < n → IsE g.edges a b → (b : Int) ∈ g.followers.getD a [] := fun ha h => (fol_E (by omega) _).2 ⟨by omega, h⟩
  constructor
  · intro h
    have hp := h1.sound i j hi hj h
    clear h hj hreach
    induction hp with
    | edge h => have := f1 _ (hE hi h); simpa using this
    | step h3 h4 h5 ih => have := f2 _ ih _ (hE h4 h5); simpa using this
  · intro h
    refine h2 i j hi hj ?_
    refine f3 (fun j => PathB (IsE g.edges) n i j) (fun x hx => ?_) (fun k hk x hx => ?_) j h
    · obtain ⟨x0, x1⟩ := (fol_E (by omega) x).1 hx
      refine .edge ?_
      unfold IsE
      rw [Int.toNat_of_nonneg x0]; exact x1
    · have hkn : k < n := by
        rcases Nat.lt_or_ge k n with h | h
        · exact h
        · rw [List.getD_eq_getElem?_getD, List.getElem?_eq_none (by omega)] at hx; cases hx
      obtain ⟨x0, x1⟩ := (fol_E (by omega) x).1 hx
      refine .step hk hkn ?_
      unfold IsE
      rw [Int.toNat_of_nonneg x0]; exact x1
end Go.Proofs.Lg

namespace Go.Proofs.Lg

theorem rel_path {g : Gr} (hc : g.check = 0) {i j : Nat} (hi : i < g.lines.length) (hj : j < g.lines.length) : rel g.reach i j = true ↔ PathB (IsE g.edges) g.lines.length i j := by
  rw [← war_reach hc]
  have hok := (Gr.check_ok hc).2
  generalize g.lines.length = n at *
  have hq0 : Sq n (List.replicate n (List.replicate n false)) := ⟨by simp, fun r hr => by simp at hr; simp [hr.2]⟩
  obtain ⟨hq, he⟩ := edgeT_go g.edges _ hok hq0
  have he' : ∀ i j, i < n → j < n → (rel (edgeT n g.edges) i j = true ↔ IsE g.edges i j) := fun i j hi hj => by
    have := he i j hi hj
    rw [rel_repl] at this
    unfold edgeT
    rw [this]; simp
  have hW : WInv (IsE g.edges) n (edgeT n g.edges) (edgeT n g.edges) := ⟨hq, fun i j hi hj h => .edge ((he' i j hi hj).1 h), fun _ _ h => h⟩
  obtain ⟨h1, h2⟩ := war_inv hW (fun i j hi hj h => (he' i j hi hj).2 h) n (Nat.le_refl _)
  exact ⟨fun h => h1.sound i j hi hj h, fun h => h2 i j hi hj h⟩

/-- The number of a line when line d is taken out. -/
def mv (d i : Nat) : Nat := if d < i then i - 1 else i

theorem mv_inj {d i j : Nat} (hi : i ≠ d) (hj : j ≠ d) (h : mv d i = mv d j) : i = j := by
  unfold mv at h
  split at h <;> split at h <;> omega
theorem mv_lt {d i n : Nat} (hi : i ≠ d) (hd : d < n) : mv d i < n - 1 ↔ i < n := by
  unfold mv
  split <;> omega
theorem mv_mono {d i j : Nat} (hi : i ≠ d) (hj : j ≠ d) (h : i < j) : mv d i < mv d j := by
  unfold mv
  split <;> split <;> omega

section
variable {E E' : Nat → Nat → Prop} {n d : Nat} (hd : d < n) (hno : ∀ a, ¬ E a a) (hin : ∀ a b, E a b → a < n ∧ b < n)
  (h1 : ∀ a b, a ≠ d → b ≠ d → E a b → E' (mv d a) (mv d b)) (h2 : ∀ a b, a ≠ d → b ≠ d → a ≠ b → E a d → E d b → E' (mv d a) (mv d b))
  (h3 : ∀ p q, E' p q → ∃ a b, a ≠ d ∧ b ≠ d ∧ p = mv d a ∧ q = mv d b ∧ (E a b ∨ (E a d ∧ E d b)))

include hd hno hin h1 h2 in
theorem path_out {i x : Nat} (hid : i ≠ d) (h : PathB E n i x) : (x ≠ d → (i = x ∨ PathB E' (n - 1) (mv d i) (mv d x))) ∧ (x = d → ∃ a, a ≠ d ∧ E a d ∧ (a = i ∨ PathB E' (n - 1) (mv d i) (mv d a))) := by
  induction h with
  | edge he => exact ⟨fun hx => .inr (.edge (h1 _ _ hid hx he)), fun hx => by subst hx; exact ⟨i, hid, he, .inl rfl⟩⟩
  | @step m j _ hm he ih =>
    have ext : ∀ a, a ≠ d → a < n → ∀ b, E' (mv d a) (mv d b) → (a = i ∨ PathB E' (n - 1) (mv d i) (mv d a)) → PathB E' (n - 1) (mv d i) (mv d b) := fun a ha han b hab hp => by
      rcases hp with rfl | hp
      · exact .edge hab
      · exact .step hp ((mv_lt ha hd).2 han) hab
    by_cases hmd : m = d
    · obtain ⟨a, ha, hea, hp⟩ := ih.2 hmd
      subst hmd
      refine ⟨fun hx => ?_, fun hx => ?_⟩
      · by_cases haj : a = j
        · subst haj
          rcases hp with rfl | hp
          · exact .inl rfl
          · exact .inr hp
        · exact .inr (ext a ha (hin _ _ hea).1 j (h2 a j ha hx haj hea he) hp)
      · subst hx; exact absurd he (hno _)
    · have hp : m = i ∨ PathB E' (n - 1) (mv d i) (mv d m) := (ih.1 hmd).imp Eq.symm id
      refine ⟨fun hx => .inr (ext m hmd hm j (h1 m j hmd hx he) hp), fun hx => ?_⟩
      subst hx
      exact ⟨m, hmd, he, hp⟩

include hd h3 in
theorem path_in {i y : Nat} (hid : i ≠ d) (h : PathB E' (n - 1) (mv d i) y) : ∃ x, x ≠ d ∧ y = mv d x ∧ PathB E n i x := by
  induction h with
  | edge he =>
    obtain ⟨a, b, ha, hb, e1, e2, hab⟩ := h3 _ _ he
    obtain rfl := mv_inj hid ha e1
    refine ⟨b, hb, e2, ?_⟩
    rcases hab with hab | ⟨k1, k2⟩
    · exact .edge hab
    · exact .step (.edge k1) hd k2
  | step _ hm he ih =>
    obtain ⟨x, hx, rfl, hp⟩ := ih
    obtain ⟨a, b, ha, hb, e1, e2, hab⟩ := h3 _ _ he
    obtain rfl := mv_inj hx ha e1
    have hxn := (mv_lt hx hd).1 hm
    refine ⟨b, hb, e2, ?_⟩
    rcases hab with hab | ⟨k1, k2⟩
    · exact .step hp hxn hab
    · exact .step (.step hp hxn k1) hd k2

include hd hno hin h1 h2 h3 in
theorem path_mv {i j : Nat} (hid : i ≠ d) (hjd : j ≠ d) (hij : i ≠ j) : PathB E' (n - 1) (mv d i) (mv d j) ↔ PathB E n i j := by
  constructor
  · intro h
    obtain ⟨x, hx, e, hp⟩ := path_in hd h3 hid h
    rw [mv_inj hjd hx e]; exact hp
  · intro h
    rcases (path_out hd hno hin h1 h2 hid h).1 hjd with h | h
    · exact absurd h hij
    · exact h
end
end Go.Proofs.Lg

namespace Go.Proofs.Lg

theorem mem_livL {ls : List Vtx} {i : Nat} : i ∈ livL ls ↔ ∃ x, ls[i]? = some x ∧ x.living = true := by
  unfold livL
  rw [livFrom_mem]
  simp

theorem sorted_ext {a b : List Nat} (ha : a.Pairwise (· < ·)) (hb : b.Pairwise (· < ·)) (h : ∀ x, x ∈ a ↔ x ∈ b) : a = b := by
  have na : a.Nodup := ha.imp fun h => Nat.ne_of_lt h
  have nb : b.Nodup := hb.imp fun h => Nat.ne_of_lt h
  exact List.Perm.eq_of_pairwise (le := (· < ·)) (fun x y _ _ h1 h2 => absurd h1 (Nat.lt_asymm h2)) ha hb ((List.perm_ext_iff_of_nodup na nb).2 h)

theorem mv_up {d i : Nat} (hi : i ≠ d) : (if mv d i < d then mv d i else mv d i + 1) = i := by
  unfold mv
  split <;> split <;> omega
theorem mv_of {d i : Nat} : mv d (if i < d then i else i + 1) = i ∧ (if i < d then i else i + 1) ≠ d := by
  unfold mv
  split <;> split <;> omega

theorem erase_get {α : Type} {ls : List α} {d i : Nat} : (ls.eraseIdx d)[i]? = ls[if i < d then i else i + 1]? := by
  rw [List.getElem?_eraseIdx]
  split <;> rfl

theorem living_erase {ls : List Vtx} {d : Nat} (hdead : ∀ x, ls[d]? = some x → x.living = false) : livL (ls.eraseIdx d) = (livL ls).map (mv d) := by
  have hne : ∀ i ∈ livL ls, i ≠ d := fun i hi e => by
    subst e
    obtain ⟨x, hx, hl⟩ := mem_livL.1 hi
    rw [hdead x hx] at hl; cases hl
  refine sorted_ext (livFrom_sorted _ 0) ?_ fun i => ?_
  · rw [List.pairwise_map]
    refine (livFrom_sorted ls 0).imp_of_mem fun ha hb hab => mv_mono (hne _ ha) (hne _ hb) hab
  · rw [mem_livL, List.mem_map]
    constructor
    · rintro ⟨x, hx, hl⟩
      rw [erase_get] at hx
      exact ⟨_, mem_livL.2 ⟨x, hx, hl⟩, mv_of.1⟩
    · rintro ⟨j, hj, rfl⟩
      obtain ⟨x, hx, hl⟩ := mem_livL.1 hj
      refine ⟨x, ?_, hl⟩
      rw [erase_get, mv_up (hne j hj)]; exact hx

theorem dead_regions {g h : Gr} {d : Nat} (hcg : g.check = 0) (hch : h.check = 0) (hl : h.lines = g.lines.eraseIdx d) (hd : d < g.lines.length) (hdead : ∀ x, g.lines[d]? = some x → x.living = false)
    (h1 : ∀ a b, a ≠ d → b ≠ d → IsE g.edges a b → IsE h.edges (mv d a) (mv d b)) (h2 : ∀ a b, a ≠ d → b ≠ d → a ≠ b → IsE g.edges a d → IsE g.edges d b → IsE h.edges (mv d a) (mv d b))
    (h3 : ∀ p q, IsE h.edges p q → ∃ a b, a ≠ d ∧ b ≠ d ∧ p = mv d a ∧ q = mv d b ∧ (IsE g.edges a b ∨ (IsE g.edges a d ∧ IsE g.edges d b))) :
    regionsL h.reach h.living = (regionsL g.reach g.living).map (mapR (mv d)) := by
  have hlen : h.lines.length = g.lines.length - 1 := by rw [hl, List.length_eraseIdx_of_lt hd]
  have hliv : h.living = g.living.map (mv d) := by
    unfold Gr.living
    rw [if_pos hcg, if_pos hch, hl, living_erase hdead]
  have hok := (Gr.check_ok hcg).2
  have hno : ∀ a, ¬ IsE g.edges a a := fun a ha => (hok _ ha).2.2 rfl
  have hin : ∀ a b, IsE g.edges a b → a < g.lines.length ∧ b < g.lines.length := fun a b hab => by
    have := hok _ hab
    dsimp only at this
    omega
  have hlt : ∀ i ∈ g.living, i < g.lines.length ∧ i ≠ d := fun i hi => by
    have h5 := g.living_lt i hi
    unfold Gr.dim at h5
    rw [if_pos hcg] at h5
    refine ⟨h5, fun e => ?_⟩
    unfold Gr.living at hi
    rw [if_pos hcg] at hi
    subst e
    obtain ⟨x, hx, hxl⟩ := mem_livL.1 hi
    rw [hdead x hx] at hxl; cases hxl
  have hsame : SameO (mv d) g.living g.reach h.reach := by
    refine ⟨fun i hi j hj hij => mv_mono (hlt i hi).2 (hlt j hj).2 hij, fun i hi j hj hij => ?_⟩
    obtain ⟨i1, i2⟩ := hlt i hi
    obtain ⟨j1, j2⟩ := hlt j hj
    rw [Bool.eq_iff_iff, rel_path hcg i1 j1, rel_path hch (by rw [hlen]; exact (mv_lt i2 hd).2 i1) (by rw [hlen]; exact (mv_lt j2 hd).2 j1), hlen]
    exact path_mv hd hno hin h1 h2 h3 i2 j2 hij
  rw [hliv]
  exact hsame.regionsL fun _ hx => hx
end Go.Proofs.Lg

namespace Go.Proofs.Lg

def mvI (d i : Int) : Int := if d < i then i - 1 else i
def joinE (es : List (Int × Int)) (d : Int) : List (Int × Int) := es.flatMap fun x =>
  (if x.1 ≠ d ∧ x.2 ≠ d then [(mvI d x.1, mvI d x.2)] else []) ++ (es.filter fun y => decide (x.2 = d ∧ y.1 = d ∧ x.1 ≠ y.2 ∧ 0 ≤ x.1 ∧ 0 ≤ y.2)).map fun y => (mvI d x.1, mvI d y.2)
def leE (a b : Int × Int) : Bool := decide (a.1 < b.1 ∨ (a.1 = b.1 ∧ a.2 ≤ b.2))
def LtE (a b : Int × Int) : Prop := a.1 < b.1 ∨ (a.1 = b.1 ∧ a.2 < b.2)
/-- Of equal neighbours the first. -/
def compE : List (Int × Int) → List (Int × Int)
  | [] => []
  | [x] => [x]
  | x :: y :: l => if x = y then compE (y :: l) else x :: compE (y :: l)
def Gr.without (g : Gr) (d : Nat) : Gr := ⟨g.lines.eraseIdx d, compE ((joinE g.edges d).mergeSort leE)⟩

theorem mem_compE : ∀ {l : List (Int × Int)} {z : Int × Int}, z ∈ compE l ↔ z ∈ l
  | [], z => by simp [compE]
  | [x], z => by simp [compE]
  | x :: y :: l, z => by
    unfold compE
    have ih := mem_compE (l := y :: l) (z := z)
    split
    · rename_i e
      subst e
      rw [ih]; simp
    · rw [List.mem_cons, ih, List.mem_cons (b := x)]

theorem compE_lt : ∀ {l : List (Int × Int)}, (l.Pairwise fun a b => leE a b = true) → (compE l).Pairwise LtE
  | [], _ => by simp [compE]
  | [x], _ => by simp [compE]
  | x :: y :: l, h => by
    obtain ⟨h1, h2⟩ := List.pairwise_cons.1 h
    unfold compE
    split
    · exact compE_lt h2
    · rename_i hne
      refine List.pairwise_cons.2 ⟨fun z hz => ?_, compE_lt h2⟩
      have hxy := h1 y (by simp)
      have hz' := mem_compE.1 hz
      obtain ⟨h3, _⟩ := List.pairwise_cons.1 h2
      have hyz : y = z ∨ leE y z = true := by
        rcases List.mem_cons.1 hz' with rfl | hz'
        · exact .inl rfl
        · exact .inr (h3 z hz')
      obtain ⟨x1, x2⟩ := x
      obtain ⟨y1, y2⟩ := y
      obtain ⟨z1, z2⟩ := z
      simp only [leE, decide_eq_true_eq, Prod.mk.injEq] at hxy hyz hne
      unfold LtE
      dsimp only
      omega

theorem leE_sorted (l : List (Int × Int)) : (l.mergeSort leE).Pairwise fun a b => leE a b = true :=
  List.pairwise_mergeSort (fun a b c h1 h2 => by simp only [leE, decide_eq_true_eq] at *; omega) (fun a b => by simp only [leE, Bool.or_eq_true, decide_eq_true_eq]; omega) l

theorem without_mem {g : Gr} {d : Nat} {z : Int × Int} : z ∈ (g.without d).edges ↔ z ∈ joinE g.edges d := by
  unfold Gr.without
  dsimp only
  rw [mem_compE, (List.mergeSort_perm _ _).mem_iff]

theorem mem_joinE {es : List (Int × Int)} {d : Int} {z : Int × Int} : z ∈ joinE es d ↔ ∃ x ∈ es, (x.1 ≠ d ∧ x.2 ≠ d ∧ z = (mvI d x.1, mvI d x.2)) ∨ ∃ y ∈ es, x.2 = d ∧ y.1 = d ∧ x.1 ≠ y.2 ∧ 0 ≤ x.1 ∧ 0 ≤ y.2 ∧ z = (mvI d x.1, mvI d y.2) := by
  unfold joinE
  rw [List.mem_flatMap]
  refine exists_congr fun x => and_congr_right fun _ => ?_
  rw [List.mem_append, List.mem_map]
  constructor
  · rintro (h | ⟨y, hy, rfl⟩)
    · split at h
      · rename_i hh
        exact .inl ⟨hh.1, hh.2, List.mem_singleton.1 h⟩
      · cases h
    · obtain ⟨h1, h2⟩ := List.mem_filter.1 hy
      simp only [decide_eq_true_eq] at h2
      exact .inr ⟨y, h1, h2.1, h2.2.1, h2.2.2.1, h2.2.2.2.1, h2.2.2.2.2, rfl⟩
  · rintro (⟨h1, h2, rfl⟩ | ⟨y, hy, h1, h2, h3, h4, h5, rfl⟩)
    · exact .inl (by rw [if_pos ⟨h1, h2⟩]; simp)
    · exact .inr ⟨y, List.mem_filter.2 ⟨hy, by simp only [decide_eq_true_eq]; exact ⟨h1, h2, h3, h4, h5⟩⟩, rfl⟩

theorem mvI_mv (d i : Nat) : mvI (d : Int) (i : Int) = ((mv d i : Nat) : Int) := by
  unfold mvI mv
  split <;> split <;> omega

theorem without_ok {g : Gr} (hok : okEdges g.lines.length g.edges) {d : Nat} (hd : d < g.lines.length) : okEdges (g.lines.length - 1) (g.without d).edges := by
  intro z hz
  obtain ⟨x, hx, h⟩ := mem_joinE.1 (without_mem.1 hz)
  have hx' := hok x hx
  rcases h with ⟨h1, h2, rfl⟩ | ⟨y, hy, h1, h2, h3, h4, h5, rfl⟩
  · dsimp only
    unfold mvI
    split <;> split <;> omega
  · have hy' := hok y hy
    dsimp only
    unfold mvI
    split <;> split <;> omega

theorem without_regions {g : Gr} {d : Nat} (hcg : g.check = 0) (hch : (g.without d).check = 0) (hd : d < g.lines.length) (hdead : ∀ x, g.lines[d]? = some x → x.living = false) :
    regionsL (g.without d).reach (g.without d).living = (regionsL g.reach g.living).map (mapR (mv d)) := by
  have hok := (Gr.check_ok hcg).2
  refine dead_regions hcg hch rfl hd hdead (fun a b ha hb hab => ?_) (fun a b ha hb hab h1 h2 => ?_) (fun p q hpq => ?_)
  · refine without_mem.2 (mem_joinE.2 ⟨_, hab, .inl ⟨by dsimp only; omega, by dsimp only; omega, ?_⟩⟩)
    rw [mvI_mv, mvI_mv]
  · refine without_mem.2 (mem_joinE.2 ⟨_, h1, .inr ⟨_, h2, rfl, rfl, by dsimp only; omega, by dsimp only; omega, by dsimp only; omega, ?_⟩⟩)
    rw [mvI_mv, mvI_mv]
  · obtain ⟨x, hx, h⟩ := mem_joinE.1 (without_mem.1 hpq)
    have hx' := hok x hx
    obtain ⟨x1, x2⟩ := x
    dsimp only at hx' h
    rcases h with ⟨h1, h2, e⟩ | ⟨y, hy, h1, h2, h3, h4, h5, e⟩
    · have hx1 : 0 ≤ x1 ∧ 0 ≤ x2 := by
        injection e with e1 e2
        unfold mvI at e1 e2
        split at e1 <;> split at e2 <;> omega
      obtain ⟨a, rfl⟩ : ∃ a : Nat, x1 = (a : Int) := ⟨x1.toNat, by omega⟩
      obtain ⟨b, rfl⟩ : ∃ b : Nat, x2 = (b : Int) := ⟨x2.toNat, by omega⟩
      rw [mvI_mv, mvI_mv] at e
      injection e with e1 e2
      exact ⟨a, b, by omega, by omega, by omega, by omega, .inl hx⟩
    · have hy' := hok y hy
      obtain ⟨y1, y2⟩ := y
      dsimp only at hy' h2 h3 h5 e
      subst h1; subst h2
      obtain ⟨a, rfl⟩ : ∃ a : Nat, x1 = (a : Int) := ⟨x1.toNat, by omega⟩
      obtain ⟨b, rfl⟩ : ∃ b : Nat, y2 = (b : Int) := ⟨y2.toNat, by omega⟩
      rw [mvI_mv, mvI_mv] at e
      injection e with e1 e2
      exact ⟨a, b, by omega, by omega, by omega, by omega, .inr ⟨hx, hy⟩⟩
end Go.Proofs.Lg

namespace Go.Proofs.Lg
open Go Go.RowKit

set_option maxHeartbeats 1000000 in
theorem without1_any (d i : Int) (Bd : Nat) (w : World) (h0 : w.cell? ⟨Bd, 0, none⟩ = some (.int .i64 d)) (hi : -1 ≤ i ∧ i ≤ 1000000) :
    Calls Tryz.prog 50 #[.int .i64 i, .pointer (some ⟨Bd, 0, none⟩)] w fun e w' => e = .returned (.int .i64 (mvI d i)) ∧ Below w.heap.size w w' := by
  have hl := cell_lt h0
  by_cases hlt : d < i
  · have h1 : mvI d i = i - 1 := if_pos hlt
    have h2 : decide (i > d) = true := by simpa using hlt
    rw [h1]
    go_enter Tryz.func50, Tryz.ntmps50
    go_wp2
    go_ret
    exact ⟨by go_num, Below.refl _ _⟩
  · have h1 : mvI d i = i := if_neg hlt
    have h2 : decide (i > d) = false := by simp; omega
    rw [h1]
    go_enter Tryz.func50, Tryz.ntmps50
    go_wp2
    go_ret
    exact ⟨rfl, Below.refl _ _⟩

/-- What the law's comparison of edges gives. -/
def subE (a b : Int × Int) : Int := if a.1 ≠ b.1 then a.1 - b.1 else a.2 - b.2

set_option maxHeartbeats 1000000 in
theorem without2_any (a1 a2 b1 b2 : Int) (w : World) (h1 : -1 ≤ a1 ∧ a1 ≤ 1000000) (h2 : -1 ≤ a2 ∧ a2 ≤ 1000000) (h3 : -1 ≤ b1 ∧ b1 ≤ 1000000) (h4 : -1 ≤ b2 ∧ b2 ≤ 1000000) :
    Calls Tryz.prog 52 #[.agg #[.int .i64 a1, .int .i64 a2], .agg #[.int .i64 b1, .int .i64 b2]] w fun e w' => e = .returned (.int .i64 (subE (a1, a2) (b1, b2))) ∧ Below w.heap.size w w' := by
  have HB : Hid (Below w.heap.size w ((w.alloc (.cells #[.int .i64 a1, .int .i64 a2] 74)).alloc (.cells #[.int .i64 b1, .int .i64 b2] 74))) := ((Below.refl _ _).alloc (Nat.le_refl _) _).alloc (by simp) _
  by_cases hne : a1 = b1
  · have e1 : subE (a1, a2) (b1, b2) = a2 - b2 := if_neg (by simp [hne])
    have k1 : (a1 != b1) = false := by simp [hne]
    rw [e1]
    clear hne
    go_enter Tryz.func52, Tryz.ntmps52
    go_wp2
    go_ret
    exact ⟨by go_num, HB.out⟩
  · have e1 : subE (a1, a2) (b1, b2) = a1 - b1 := if_pos hne
    have k1 : (a1 != b1) = true := by simp [hne]
    rw [e1]
    clear hne
    go_enter Tryz.func52, Tryz.ntmps52
    go_wp2
    go_ret
    exact ⟨by go_num, HB.out⟩

/-- A sorted row of the same edges is the sorted row. -/
theorem sorted_leE {l l' : List (Int × Int)} (hp : l'.Perm l) (hs : l'.Pairwise fun a b => leE a b = true) : l' = l.mergeSort leE :=
  (hp.trans (List.mergeSort_perm l leE).symm).eq_of_pairwise (le := fun a b => leE a b = true) (fun a b _ _ h1 h2 => by
    obtain ⟨a1, a2⟩ := a
    obtain ⟨b1, b2⟩ := b
    simp only [leE, decide_eq_true_eq] at h1 h2
    have : a1 = b1 ∧ a2 = b2 := by omega
    rw [this.1, this.2]) hs (leE_sorted l)

theorem subE_leE (a b : Int × Int) : (subE b a < 0) ↔ leE a b = false := by
  obtain ⟨a1, a2⟩ := a
  obtain ⟨b1, b2⟩ := b
  unfold subE leE
  dsimp only
  rw [decide_eq_false_iff_not]
  split <;> omega
end Go.Proofs.Lg

namespace Go.Proofs.Lg

theorem cmpInt_lt {a b : Int} : cmpInt a b < 0 ↔ a < b := by
  unfold cmpInt
  split <;> (try split) <;> omega
theorem cmpInt_zero {a b : Int} : cmpInt a b = 0 ↔ a = b := by
  unfold cmpInt
  split <;> (try split) <;> omega

theorem lexCmp_trans : ∀ {a b c : List Int}, lexCmp a b ≤ 0 → lexCmp b c ≤ 0 → lexCmp a c ≤ 0 ∧ (lexCmp a c = 0 → lexCmp a b = 0 ∧ lexCmp b c = 0)
  | [], [], [], _, _ => by simp [lexCmp]
  | [], [], _ :: _, _, _ => by simp [lexCmp]
  | [], _ :: _, [], _, h => by simp [lexCmp] at h
  | [], _ :: _, _ :: _, _, _ => by simp [lexCmp]
  | _ :: _, [], _, h, _ => by simp [lexCmp] at h
  | _ :: _, _ :: _, [], _, h => by simp [lexCmp] at h
  | x :: a, y :: b, z :: c, h1, h2 => by
    have ih := lexCmp_trans (a := a) (b := b) (c := c)
    simp only [lexCmp] at *
    rcases Int.lt_trichotomy x y with hxy | hxy | hxy
    · have hxz : x < z := by
        rcases Int.lt_trichotomy y z with h | h | h
        · omega
        · omega
        · rw [if_neg (by omega), if_pos h] at h2; omega
      rw [if_pos hxz]
      exact ⟨by decide, fun h => by omega⟩
    · subst hxy
      rcases Int.lt_trichotomy x z with h | h | h
      · rw [if_pos h]
        exact ⟨by decide, fun h => by omega⟩
      · subst h
        simp only [Int.lt_irrefl, if_false] at *
        exact ih h1 h2
      · rw [if_neg (by omega), if_pos h] at h2; omega
    · rw [if_neg (by omega), if_pos hxy] at h1; omega

theorem cmpId_trans {a b c : List Int} {n m k : Int} (h1 : cmpId a n b m < 0) (h2 : cmpId b m c k < 0) : cmpId a n c k < 0 := by
  unfold cmpId at *
  have a1 : lexCmp a b ≤ 0 := by split at h1 <;> omega
  have a2 : lexCmp b c ≤ 0 := by split at h2 <;> omega
  obtain ⟨h3, h4⟩ := lexCmp_trans a1 a2
  by_cases h0 : lexCmp a c = 0
  · obtain ⟨k1, k2⟩ := h4 h0
    rw [if_pos k1, cmpInt_lt] at h1
    rw [if_pos k2, cmpInt_lt] at h2
    rw [if_pos h0, cmpInt_lt]
    omega
  · rw [if_neg h0]; omega

theorem linesOk_pair : ∀ {l : List Vtx}, linesOk l = true → l.Pairwise fun a b => a.cmp b < 0
  | [], _ => List.Pairwise.nil
  | [x], _ => by simp
  | x :: y :: l, h => by
    rw [linesOk_cons, Bool.and_eq_true, decide_eq_true_eq] at h
    obtain ⟨h1, h2⟩ := h
    have ih := linesOk_pair h2
    refine List.pairwise_cons.2 ⟨fun z hz => ?_, ih⟩
    rcases List.mem_cons.1 hz with rfl | hz
    · exact h1
    · exact cmpId_trans h1 ((List.pairwise_cons.1 ih).1 z hz)
theorem linesOk_of : ∀ {l : List Vtx}, (l.Pairwise fun a b => a.cmp b < 0) → linesOk l = true
  | [], _ => rfl
  | [x], _ => rfl
  | x :: y :: l, h => by
    obtain ⟨h1, h2⟩ := List.pairwise_cons.1 h
    rw [linesOk_cons, Bool.and_eq_true, decide_eq_true_eq]
    exact ⟨h1 y (by simp), linesOk_of h2⟩

theorem cmpEdge_lt {a b : Int × Int} (h : LtE a b) : cmpEdge a b < 0 := by
  unfold cmpEdge
  simp only [orInt]
  rcases h with h | ⟨h1, h2⟩
  · have := cmpInt_lt.2 h
    rw [if_neg (by omega)]; exact this
  · have e := cmpInt_zero.2 h1
    have := cmpInt_lt.2 h2
    rw [if_pos e, if_neg (by omega)]; exact this

theorem edgesErr_zero {n : Nat} : ∀ {l : List (Int × Int)} {p : Option (Int × Int)}, okEdges n l → l.Pairwise LtE → (∀ q, p = some q → ∀ z ∈ l, LtE q z) → edgesErr n p l = 0
  | [], p, _, _, _ => by cases p <;> rfl
  | e :: l, p, ho, hp, hq => by
    have he := ho e (by simp)
    obtain ⟨h1, h2⟩ := List.pairwise_cons.1 hp
    have ih := edgesErr_zero (p := some e) (fun z hz => ho z (by simp [hz])) h2 fun q hq z hz => by cases hq; exact h1 z hz
    have hb : (outB n e.1 || outB n e.2) = false := by
      unfold outB
      simp only [Bool.or_eq_false_iff, decide_eq_false_iff_not]
      omega
    cases p with
    | none => simp only [edgesErr, hb, Bool.false_eq_true, if_false, if_neg he.2.2, ih]
    | some q =>
      have hc := cmpEdge_lt (hq q rfl e (by simp))
      simp only [edgesErr, hb, Bool.false_eq_true, if_false, if_neg he.2.2, if_neg (show ¬ 0 ≤ cmpEdge q e by omega), ih]

theorem without_check {g : Gr} (hcg : g.check = 0) {d : Nat} (hd : d < g.lines.length) : (g.without d).check = 0 := by
  obtain ⟨hl, hok⟩ := Gr.check_ok hcg
  have h1 : linesOk (g.without d).lines = true := linesOk_of ((linesOk_pair hl).sublist (List.eraseIdx_sublist _ _))
  have hlen : (g.without d).lines.length = g.lines.length - 1 := List.length_eraseIdx_of_lt hd
  unfold Gr.check
  rw [h1, if_pos rfl, hlen]
  exact edgesErr_zero (without_ok hok hd) (compE_lt (leE_sorted _)) fun q hq => by cases hq

/-- What LinearizeDead says, in plain words. -/
theorem dead_plain {g : Gr} {d : Nat} (hcg : g.check = 0) (hd : d < g.lines.length) (hdead : ∀ x, g.lines[d]? = some x → x.living = false) :
    regionsL (g.without d).reach (g.without d).living = (regionsL g.reach g.living).map (mapR (mv d)) :=
  without_regions hcg (without_check hcg hd) hd hdead
end Go.Proofs.Lg
