/-
  When all living lines are settled: what LinearizeCertain reckons.
-/
import Derived.Test.YtkjmdefgdongfaaP4
import Derived.Test.YtkjmdefgdongfaaR2
namespace Go.Proofs.Lg
open Go

def Gr.liv (g : Gr) (i : Nat) : Bool := (g.lines[i]?.map (·.living)).getD false
def Gr.okP (g : Gr) (i j : Nat) : Bool := (!g.liv i || !g.liv j) || (g.before i j || g.before j i)
def Gr.certJ (g : Gr) (i m : Nat) : Bool := (List.range m).all (g.okP i)
def Gr.certK (g : Gr) (k : Nat) : Bool := (List.range k).all fun i => g.certJ i i
theorem Gr.certJ_succ (g : Gr) (i m : Nat) : g.certJ i (m + 1) = (g.certJ i m && g.okP i m) := by simp [Gr.certJ, List.range_succ]
theorem Gr.certK_succ (g : Gr) (k : Nat) : g.certK (k + 1) = (g.certK k && g.certJ k k) := by simp [Gr.certK, List.range_succ]

theorem Gr.mem_living {g : Gr} (h : g.check = 0) (i : Nat) : i ∈ g.living ↔ i < g.lines.length ∧ g.liv i = true := by
  unfold Gr.living Gr.liv
  rw [if_pos h]
  unfold livL
  rw [livFrom_mem]
  simp only [Nat.zero_le, true_and, Nat.sub_zero]
  constructor
  · rintro ⟨x, hx, hl⟩
    exact ⟨(List.getElem?_eq_some_iff.1 hx).1, by rw [hx]; exact hl⟩
  · rintro ⟨hi, hl⟩
    rw [List.getElem?_eq_getElem hi] at hl
    exact ⟨_, List.getElem?_eq_getElem hi, hl⟩

theorem Gr.before_relat {g : Gr} (h : g.check = 0) {i j : Nat} (hi : i < g.lines.length) (hj : j < g.lines.length) : (g.before i j || g.before j i) = relat g.reach i j := by
  rw [Gr.before_bef h hi hj, Gr.before_bef h hj hi]; rfl

theorem Gr.cert_iff {g : Gr} (h : g.check = 0) : g.certK g.lines.length = !((regionsL g.reach g.living).any (·.conflict)) := by
  have hc := (regionsL_conflict (rows := g.reach) (living := g.living)).2
  have h1 : ((regionsL g.reach g.living).any (·.conflict)) = true ↔ outL g.reach g.living g.living ≠ [] := by
    rw [List.any_eq_true]; exact hc
  have h2 : g.certK g.lines.length = true ↔ outL g.reach g.living g.living = [] := by
    unfold Gr.certK Gr.certJ
    rw [List.all_eq_true]
    constructor
    · intro hall
      rw [List.eq_nil_iff_forall_not_mem]
      intro u hu
      obtain ⟨hul, v, hvl, huv, hrel⟩ := mem_outL.1 hu
      obtain ⟨hun, hlu⟩ := (Gr.mem_living h u).1 hul
      obtain ⟨hvn, hlv⟩ := (Gr.mem_living h v).1 hvl
      rcases Nat.lt_or_ge v u with hlt | hge
      · have := List.all_eq_true.1 (hall u (List.mem_range.2 hun)) v (List.mem_range.2 hlt)
        unfold Gr.okP at this
        rw [hlu, hlv, Gr.before_relat h hun hvn, hrel] at this
        cases this
      · have hlt : u < v := by omega
        have := List.all_eq_true.1 (hall v (List.mem_range.2 hvn)) u (List.mem_range.2 hlt)
        unfold Gr.okP at this
        rw [hlu, hlv, Gr.before_relat h hvn hun, relat_symm, hrel] at this
        cases this
    · intro he i hi
      rw [List.all_eq_true]
      intro j hj
      have hi := List.mem_range.1 hi
      have hj := List.mem_range.1 hj
      unfold Gr.okP
      cases hli : g.liv i with
      | false => rfl
      | true =>
        cases hlj : g.liv j with
        | false => rfl
        | true =>
          have hjn : j < g.lines.length := by omega
          rw [Gr.before_relat h hi hjn]
          cases hr : relat g.reach i j with
          | true => rfl
          | false =>
            have : i ∈ outL g.reach g.living g.living := mem_outL.2 ⟨(Gr.mem_living h i).2 ⟨hi, hli⟩, j, (Gr.mem_living h j).2 ⟨hjn, hlj⟩, by omega, hr⟩
            rw [he] at this; cases this
  cases hK : g.certK g.lines.length <;> cases hA : (regionsL g.reach g.living).any (·.conflict)
  · have := h2.2 (Classical.byContradiction fun hne => by have := h1.2 hne; rw [hA] at this; cases this)
    rw [hK] at this; cases this
  · rfl
  · rfl
  · exact absurd (h2.1 hK) (h1.1 hA)

/-- What each region of a graph's regions is. -/
def RegsGood (regs : List Reg) : Prop := (∀ r ∈ regs, GoodReg r ∧ Small r) ∧ Alter true regs

theorem len_le_flatten : ∀ l : List (List Nat), (∀ s ∈ l, s ≠ []) → l.length ≤ l.flatten.length
  | [], _ => Nat.le_refl _
  | s :: l, h => by
    have h1 := len_le_flatten l fun t ht => h t (List.mem_cons_of_mem _ ht)
    have h2 := List.length_pos_iff.2 (h s List.mem_cons_self)
    simp only [List.flatten_cons, List.length_append, List.length_cons]
    omega

theorem GoodReg.all_ne {r : Reg} (h : GoodReg r) : r.all ≠ [] := by
  unfold Reg.all
  rcases h with ⟨_, h1, _⟩ | ⟨_, _, h1, h2⟩
  · simp [h1]
  · obtain ⟨s, l, hs⟩ : ∃ s l, r.sides = s :: l := by cases hr : r.sides with | nil => exact absurd hr h1 | cons s l => exact ⟨s, l, rfl⟩
    have := h2 s (by rw [hs]; simp)
    rw [hs]; simp [this]

theorem all_le_seq : ∀ (regs : List Reg) (r : Reg), r ∈ regs → r.all.length ≤ (regs.flatMap Reg.all).length
  | [], _, h => by cases h
  | a :: l, r, h => by
    rw [List.flatMap_cons, List.length_append]
    rcases List.mem_cons.1 h with rfl | h
    · omega
    · have := all_le_seq l r h; omega

theorem regs_le_seq : ∀ (regs : List Reg), (∀ r ∈ regs, GoodReg r) → regs.length ≤ (regs.flatMap Reg.all).length
  | [], _ => Nat.le_refl _
  | a :: l, h => by
    have h1 := regs_le_seq l fun r hr => h r (List.mem_cons_of_mem _ hr)
    have h2 := List.length_pos_iff.2 (h a List.mem_cons_self).all_ne
    rw [List.flatMap_cons, List.length_append, List.length_cons]
    omega

theorem Gr.seq_le (g : Gr) : (seqL g.reach g.living).length ≤ g.lines.length := by
  rw [(seqL_perm g.lv).length_eq]; exact g.living_len

theorem regsGood (g : Gr) (h : g.lines.length ≤ 1000000) : RegsGood (regionsL g.reach g.living) := by
  obtain ⟨h1, h2⟩ := regionsL_good g.lv
  refine ⟨fun r hr => ⟨h1 r hr, ?_⟩, h2⟩
  have h3 := all_le_seq _ r hr
  have h4 := g.seq_le
  unfold seqL at h4
  have h5 : r.all.length ≤ 1000000 := by omega
  unfold Reg.all at h5
  rw [List.length_append] at h5
  refine ⟨?_, by omega⟩
  rcases h1 r hr with ⟨_, _, hs⟩ | ⟨_, _, _, hs⟩
  · rw [hs]; simp
  · have := len_le_flatten r.sides hs; omega

theorem regs_len (g : Gr) (h : g.lines.length ≤ 1000000) : (regionsL g.reach g.living).length ≤ 1000000 := by
  have h1 := regs_le_seq _ (regionsL_good g.lv).1
  have h4 := g.seq_le
  unfold seqL at h4
  omega
end Go.Proofs.Lg
