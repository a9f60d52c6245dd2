/-
  Part Y15 of this claim's proof. Joined by merge.py from the texts of wip/tpl.
-/
import Derived.Test.YtclholnhkhjjaaaGreatYB
import Derived.Test.YtclholnhkhjjaaaGreatQ3
set_option linter.unusedVariables false
set_option linter.unusedSimpArgs false
set_option linter.unnecessarySimpa false
namespace Go.Proofs.Lg
open Go Go.Ab Go.RowKit

theorem flat_nrow : ∀ l : List Nat, (l.map nrow).flatten = (ints (nats l)).map D.sc
  | [] => rfl
  | x :: l => by rw [List.map_cons, List.flatten_cons, flat_nrow l]; rfl
theorem flat_srow : ∀ l : List (List Nat), (l.map srow).flatten = l.map dNats
  | [] => rfl
  | x :: l => by rw [List.map_cons, List.flatten_cons, flat_srow l]; rfl

theorem SlAt_of_RD {I : Nat → Nat} {w : World} {v : Value} {l : List Nat} (h : RD I w v (dNats l)) : SlAt w v (ints (nats l)) := by
  obtain ⟨a, c, us, rfl, h2, h3, h4, h5, h6⟩ := RD.sl_inv h
  rw [flat_nrow] at h5
  have hus := RDs_sc h5
  subst hus
  rw [List.length_map] at h3
  refine ⟨a, c, by rw [List.length_map, ints_length, nats_length], by rw [ints_length, nats_length]; exact h3, h4, fun hne => ?_⟩
  obtain ⟨b, off, ha, hc⟩ := h6 (by intro e; simp at e; subst e; exact hne rfl)
  exact ⟨b, off, ha, fun i u hu => (hc i u hu).2⟩

theorem SlOf_of_RD {I : Nat → Nat} {w : World} {v : Value} {l : List (List Nat)} (h : RD I w v (.sl 1 (l.map srow))) : SlOf w v (l.map fun s => ints (nats s)) := by
  obtain ⟨a, c, us, rfl, h2, h3, h4, h5, h6⟩ := RD.sl_inv h
  rw [flat_srow] at h5
  have hl : us.length = l.length := by rw [h5.1, List.length_map]
  rw [List.length_map] at h3
  refine ⟨us, ⟨a, c, by rw [List.length_map, hl], by omega, h4, fun hne => ?_⟩, by rw [List.length_map]; exact hl, fun i u r hu hr => ?_⟩
  · obtain ⟨b, off, ha, hc⟩ := h6 (by intro e; simp at e; subst e; simp at hl; exact hne hl)
    exact ⟨b, off, ha, fun i u hu => (hc i u hu).2⟩
  · rw [List.getElem?_map] at hr
    obtain ⟨s, hs, rfl⟩ := Option.map_eq_some_iff.1 hr
    exact SlAt_of_RD (h5.2.2 i u (dNats s) hu (by rw [List.getElem?_map, hs]; rfl))

theorem chunk_get {α : Type} (sz : Nat) : ∀ (n : Nat) (l : List α) (i : Nat), i < n → (chunk sz n l)[i]? = some ((l.drop (i * sz)).take sz)
  | 0, _, i, h => by omega
  | n + 1, l, 0, _ => by simp [chunk]
  | n + 1, l, i + 1, h => by
    rw [chunk, List.getElem?_cons_succ, chunk_get sz n _ i (by omega), List.drop_drop]
    congr 3
    rw [Nat.add_mul]; omega

theorem RegsIn_of_RD {I : Nat → Nat} {w : World} {v : Value} {regs : List Reg} (h : RD I w v (dRegs regs)) : RegsIn w v regs := by
  obtain ⟨a, c, us, rfl, h2, h3, h4, h5, h6⟩ := RD.sl_inv h
  rw [List.length_map] at h3
  have hr3 : ∀ r ∈ regs.map dReg, r.length = 3 := h2
  have hlen : us.length = regs.length * 3 := by rw [h5.1, flatten_len _ hr3, List.length_map]
  have hcl : (chunk 3 regs.length us).length = regs.length := chunk_len 3 _ _
  refine ⟨chunk 3 regs.length us, ⟨a, c, by rw [List.length_map, hcl], by rw [hcl]; exact h3, h4, fun hne => ?_⟩, hcl, fun i cc r hc hr => ?_⟩
  · obtain ⟨b, off, ha, hcell⟩ := h6 (by intro e; simp at e; subst e; exact hne rfl)
    refine ⟨b, off, ha, fun i u hu j x hx => ?_⟩
    have hi : i < regs.length := by rw [← hcl]; exact (List.getElem?_eq_some_iff.1 hu).1
    rw [chunk_get 3 _ _ i hi] at hu
    obtain rfl := Option.some.inj hu
    rw [List.getElem?_take] at hx
    split at hx
    · rw [List.getElem?_drop] at hx
      have := (hcell _ x hx).2
      rw [← this, Nat.add_assoc]
    · cases hx
  · have hi : i < regs.length := (List.getElem?_eq_some_iff.1 hr).1
    rw [chunk_get 3 _ _ i hi] at hc
    obtain rfl := Option.some.inj hc
    have hrow := flatten_row (regs.map dReg) hr3 i (dReg r) (by rw [List.getElem?_map, hr]; rfl)
    have h7 := (h5.drop (i * 3)).take 3
    rw [hrow] at h7
    generalize (us.drop (i * 3)).take 3 = xs at h7
    obtain ⟨k1, _, k3⟩ := h7
    match xs, k1 with
    | [x, y, z], _ =>
      have e0 := RD_sc (k3 0 x (.sc (.bool r.conflict)) rfl rfl)
      have e1 := k3 1 y (dNats r.lines) rfl rfl
      have e2 := k3 2 z (.sl 1 (r.sides.map srow)) rfl rfl
      subst e0
      exact ⟨y, z, rfl, SlAt_of_RD e1, SlOf_of_RD e2⟩

theorem vcells_ok {x : Vtx} (h : x.ok) : x.cells.length = 35 ∧ ∀ u ∈ x.cells, u.oneCell' = true := by
  refine ⟨by simp [Vtx.cells, h.1], fun u hu => ?_⟩
  unfold Vtx.cells at hu
  rcases List.mem_append.1 hu with hu | hu
  · obtain ⟨n, _, rfl⟩ := List.mem_map.1 hu; rfl
  · simp at hu; rcases hu with rfl | rfl | rfl <;> rfl

theorem dGraph_mk {w : World} {vl ve : Value} {g : Gr} (h : GrAt w vl ve g) : RD (Go.Ab.cellsIn w) w (.agg #[vl, ve]) (dGraph g) := by
  have h1 := RD_of_SlN h.lines (fun r hr => by obtain ⟨x, hx, rfl⟩ := List.mem_map.1 hr; exact vcells_ok (h.okl x hx)) (by omega)
  have h2 := RD_of_SlN h.edges (fun r hr => by
    obtain ⟨x, hx, rfl⟩ := List.mem_map.1 hr
    exact ⟨rfl, fun u hu => by unfold edgeCells at hu; simp at hu; rcases hu with rfl | rfl <;> rfl⟩) (by omega)
  rw [List.map_map] at h1 h2
  have e : (#[vl, ve] : Array Value) = [vl, ve].toArray := rfl
  rw [e]
  refine .agg [vl, ve] [dLines g.lines, dEdges g.edges] rfl (fun u hu => ?_) fun i u d hu hd => ?_
  · simp at hu
    rcases hu with rfl | rfl
    · exact h1.leaf rfl
    · exact h2.leaf rfl
  · match i with
    | 0 => simp at hu hd; subst hu; subst hd; exact h1
    | 1 => simp at hu hd; subst hu; subst hd; exact h2
    | i + 2 => simp at hu

theorem GrOk_of {w : World} {vl ve : Value} {g : Gr} (h : GrAt w vl ve g) : GrOk g := ⟨h.okl, h.oke, h.few, h.fewe⟩

theorem call_graph {f : FuncId} {g : Gr} {r : D} (h : AFn Tryz.prog f [dGraph g] r) {w : World} {vl ve : Value} (hg : GrAt w vl ve g) :
    Calls Tryz.prog f #[.agg #[vl, ve]] w fun e w' => ∃ v, e = .returned v ∧ (∃ I, RD I w' v r) ∧ Below w.heap.size w w' := by
  refine (h.calls (Go.Ab.cellsIn w) w [.agg #[vl, ve]] rfl fun i v d hv hd => ?_).mono fun e w' hh => ?_
  · match i with
    | 0 => simp at hv hd; subst hv; subst hd; exact dGraph_mk hg
    | i + 1 => simp at hv
  · obtain ⟨v, he, hr, hb⟩ := hh
    exact ⟨v, he, ⟨_, hr⟩, hb⟩

theorem refSettled_any (vl ve : Value) (g : Gr) (w : World) (hg : GrAt w vl ve g) :
    Calls Tryz.prog 11 #[.agg #[vl, ve]] w fun e w' => ∃ v, e = .returned v ∧ SlAt w' v (ints (nats (sortB g.reach (inL g.reach g.living g.living)))) ∧ Below w.heap.size w w' :=
  (call_graph (Settled_fn (GrOk_of hg)) hg).mono fun e w' ⟨v, he, ⟨_, hr⟩, hb⟩ => ⟨v, he, SlAt_of_RD hr, hb⟩

theorem refRegions_any (vl ve : Value) (g : Gr) (w : World) (hg : GrAt w vl ve g) :
    Calls Tryz.prog 14 #[.agg #[vl, ve]] w fun e w' => ∃ v, e = .returned v ∧ RegsIn w' v (regionsL g.reach g.living) ∧ Below w.heap.size w w' :=
  (call_graph (Regions_fn (GrOk_of hg)) hg).mono fun e w' ⟨v, he, ⟨_, hr⟩, hb⟩ => ⟨v, he, RegsIn_of_RD hr, hb⟩

theorem refSequence_any (vl ve : Value) (g : Gr) (w : World) (hg : GrAt w vl ve g) (hn : (regionsL g.reach g.living).length ≤ 1000000) (hsd : ∀ r ∈ regionsL g.reach g.living, r.sides.length ≤ 1000000) :
    Calls Tryz.prog 16 #[.agg #[vl, ve]] w fun e w' => ∃ v, e = .returned v ∧ SlAt w' v (ints (nats (seqL g.reach g.living))) ∧ Below w.heap.size w w' :=
  (call_graph (Sequence_fn (GrOk_of hg) hn hsd) hg).mono fun e w' ⟨v, he, ⟨_, hr⟩, hb⟩ => ⟨v, he, SlAt_of_RD hr, hb⟩
end Go.Proofs.Lg
