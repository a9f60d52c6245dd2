/-
  Part GAX of this claim's proof. Joined by merge.py from the texts of wip/tpl.
-/
import Derived.Test.YtclholnhkhjjaaaGreatGAW
import Derived.Test.YtclholnhkhjjaaaGreatUF
set_option linter.unusedVariables false
set_option linter.unusedSimpArgs false
set_option linter.unnecessarySimpa false
namespace Go.Proofs.Lg
open Go Go.Ab Go.Bb Go.RowKit Go.Proofs.Lh
def dRegs (l : List Reg) : D := .sl 3 (l.map dReg)
theorem regRef_succ (rows : List (List Bool)) (living inn : List Nat) (m : Nat) : regRef rows living inn (m + 1) = refStep rows living inn (regRef rows living inn m) m := by
 unfold regRef; rw [List.range_succ, List.foldl_append]; rfl
theorem refStep_len (rows : List (List Bool)) (living inn : List Nat) (c : List Reg × List Nat) (m : Nat) : (refStep rows living inn c m).1.length ≤ c.1.length + 2 ∧ (refStep rows living inn c m).2.length ≤ c.2.length + 1 := by
 unfold refStep
 dsimp only
 generalize gapR rows living inn m = g
 by_cases hg : g = [] <;> by_cases hm : m = inn.length <;> by_cases hc : c.2 = [] <;> cases inn[m]? <;> simp [hg, hc, hm]
theorem regRef_len (rows : List (List Bool)) (living inn : List Nat) : ∀ m : Nat, (regRef rows living inn m).1.length ≤ 2 * m ∧ (regRef rows living inn m).2.length ≤ m
 | 0 => ⟨Nat.le_refl _, Nat.le_refl _⟩
 | m + 1 => by
   rw [regRef_succ]
   obtain ⟨h1, h2⟩ := regRef_len rows living inn m
   obtain ⟨h3, h4⟩ := refStep_len rows living inn (regRef rows living inn m) m
   omega
theorem lenF (l : List Nat) : decide ((l.length : Int) > 0) = !decide (l = []) := by
 cases l <;> simp
theorem sizes56 {k : Nat} (h : k ≤ 4000000) : (k + 1) * 56 ≤ 140737488355328 ∧ k ≤ 9223372036854775806 ∧ (k + 1 + 1) * 56 ≤ 140737488355328 ∧ k ≤ 9223372036854775805 := by omega
theorem sizes8 {k : Nat} (h : k ≤ 4000000) : k * 8 ≤ 140737488355328 ∧ k ≤ 9223372036854775807 ∧ (k + 1) * 8 ≤ 140737488355328 ∧ k ≤ 9223372036854775806 := by omega
set_option maxRecDepth 10000 in
set_option maxHeartbeats 1000000 in
theorem Regions_go {g : Gr} (hg : GrOk g) (hc : g.check = 0) : AFn Tryz.prog 14 [dGraph g] (dRegs (regRef g.reach g.living (setL g) ((setL g).length + 1)).1) := by
 have hck := refCheck_fn hg
 have h1 := of_fn hg hc
 have h2 := settled_fn hg hc
 have hdim : g.dim = g.lines.length := by unfold Gr.dim; rw [if_pos hc]
 have hliv : g.living = livL g.lines := by unfold Gr.living; rw [if_pos hc]
 have ht := g.transR
 have hq := g.sq
 rw [hdim] at ht hq
 have hsl : ∀ j ∈ setL g, j < g.lines.length := fun j hj => by
   rw [← hdim]
   exact g.living_lt j (List.mem_filter.1 ((sortB_perm _ _).mem_iff.1 hj)).1
 have hsn : (setL g).length ≤ 1000000 := by
   have e := (sortB_perm g.reach (inL g.reach g.living g.living)).length_eq
   have e2 := List.length_filter_le (fun i => !unset g.reach g.living i) g.living
   have e3 := g.living_len
   have := hg.few
   unfold setL
   rw [e]; unfold inL; omega
 have hgap := fun m => gap_fn (dEdges g.edges) g.lines hq rfl (fun x hx => (hg.okl x hx).1) hg.few hsl hsn m
 rw [← hliv] at hgap
 have hgl : ∀ m, ∀ j ∈ gapR g.reach g.living (setL g) m, j < g.lines.length := fun m j hj => by
   rw [← hdim]; exact g.living_lt j (List.mem_filter.1 hj).1
 have hgn : ∀ m, (gapR g.reach g.living (setL g) m).length ≤ 1000000 := fun m => by
   have e2 := List.length_filter_le (fun i => !(setL g).contains i && gapN g.reach (setL g) i == m) g.living
   have e3 := g.living_len
   have := hg.few
   unfold gapR; omega
 have hconf := fun m => conflict_fn (dLines g.lines) (dEdges g.edges) ht hq (hgl m) (hgn m)
 rw [hc] at hck
 have q1 : ((0 : Int) != 0) = false := by decide
 generalize setL g = inn at *
 refine AFn_of (F := k_refRegions) (okb_refRegions.trans (by kernel_rfl)) (by simp [k_refRegions]) ?_
 simp only [k_refRegions, dGraph, roomOk, ↓Both_true, ↓Both_false, wx, reduceCtorEq, reduceIte, Nat.reduceAdd, Nat.reduceEqDiff, Nat.reduceLT, Nat.reduceLeDiff, wj, ← List.map_take, ← List.map_drop]
 refine CallM.data hck rfl ?_
 simp only [q1, dGraph, roomOk, ↓Both_true, ↓Both_false, wx, reduceCtorEq, reduceIte, Nat.reduceAdd, Nat.reduceEqDiff, Nat.reduceLT, Nat.reduceLeDiff, wj, ← List.map_take, ← List.map_drop]
 refine CallM.data h1 rfl ?_
 simp only [dOrd, roomOk, ↓Both_true, ↓Both_false, wx, reduceCtorEq, reduceIte, Nat.reduceAdd, Nat.reduceEqDiff, Nat.reduceLT, Nat.reduceLeDiff, wj, ← List.map_take, ← List.map_drop]
 refine CallM.data h2 rfl ?_
 simp only [dNats, roomOk, ↓Both_true, ↓Both_false, wx, reduceCtorEq, reduceIte, Nat.reduceAdd, Nat.reduceEqDiff, Nat.reduceLT, Nat.reduceLeDiff, wj, ← List.map_take, ← List.map_drop]
 generalize hrows : g.reach = rows at *
 generalize hlivL : g.living = living at *
 generalize hLn : dLines g.lines = Ld at *
 generalize hEd : dEdges g.edges = Ed at *
 refine LoopK.at (fun b : Nat × (List Reg × List Nat) × AV × List AObj => [(7, .d (.sc (.int .i64 b.1))), (3, .tsl 1 3 (b.2.1.1.map dReg)), (4, .ptr 2 0), (5, .d (.sl 1 (inn.map nrow))), (6, b.2.2.1)])
   (fun b => .cells [.d Ld, .d Ed] :: .row 45 3 b.2.1.1.length :: .cells [.d Ld, .d Ed, .d (dRows rows)] :: b.2.2.2)
   (fun mm b => mm + b.1 = inn.length + 1 ∧ b.2.1 = regRef rows living inn b.1 ∧ IsRow b.2.1.2 b.2.2.1) (inn.length + 1) (0, ([], []), .tsl 3 1 [], [.row 3 1 0]) (by simp [SubB, Go.Bb.look]) rfl ⟨rfl, rfl, .inr ⟨_, rfl⟩⟩ ?_
 rintro mm ⟨m, ⟨out, run⟩, v, J⟩ ⟨hm, hc1, hv⟩
 dsimp only at hm hc1 hv ⊢
 by_cases hle : m ≤ inn.length
 · have f1 : decide ((m : Int) ≤ (inn.length : Int)) = true := by simpa using hle
   have f3 : IntKind.i64.wrap ((m : Int) + 1) = ((m + 1 : Nat) : Int) := wrapN (by omega) (by omega)
   have hlen := regRef_len rows living inn m
   rw [← hc1] at hlen
   obtain ⟨o1, o2⟩ := hlen
   dsimp only at o1 o2
   have k1' : out.length ≤ 4000000 := by omega
   have k2' : run.length ≤ 4000000 := by omega
   have hsucc := regRef_succ rows living inn m
   rw [← hc1] at hsucc
   have hfin : ∀ {out' : List Reg} {run' : List Nat} {X : List (List D)} {v' : AV} {n' : Nat} {J' : List AObj}, refStep rows living inn (out, run) m = (out', run') → X = out'.map dReg → n' = out'.length → IsRow run' v' →
       ∃ (m' : Nat) (b' : Nat × (List Reg × List Nat) × AV × List AObj), m' < mm ∧ (((m + 1 : Nat) : Int) = (b'.1 : Int) ∧ AV.tsl 1 3 X = .tsl 1 3 (b'.2.1.1.map dReg) ∧ v' = b'.2.2.1) ∧
         (.cells [.d Ld, .d Ed] :: .row 45 3 n' :: .cells [.d Ld, .d Ed, .d (dRows rows)] :: J') = .cells [.d Ld, .d Ed] :: .row 45 3 b'.2.1.1.length :: .cells [.d Ld, .d Ed, .d (dRows rows)] :: b'.2.2.2 ∧
         m' + b'.1 = inn.length + 1 ∧ b'.2.1 = regRef rows living inn b'.1 ∧ IsRow b'.2.1.2 b'.2.2.1 := by
     intro out' run' X v' n' J' e1 e2 e3 e4
     subst e2; subst e3
     exact ⟨mm - 1, (m + 1, (out', run'), v', J'), by omega, ⟨rfl, rfl, rfl⟩, rfl, by dsimp only; omega, by dsimp only; rw [hsucc, e1], e4⟩
   clear hsucc hc1
   have hgm := hgap m
   have hcm := hconf m
   unfold refStep at hfin
   dsimp only at hfin
   generalize gapR rows living inn m = G at hgm hcm hfin
   obtain ⟨p1, p2, p3, p4⟩ := sizes56 k1'
   obtain ⟨p5, p6, p7, p8⟩ := sizes8 k2'
   rcases hv with hv | ⟨id, hv⟩
   all_goals (
     simp only [hv, f1, roomOk, ↓Both_true, ↓Both_false, wx, reduceCtorEq, reduceIte, Nat.reduceAdd, Nat.reduceEqDiff, Nat.reduceLT, Nat.reduceLeDiff, wj, ← List.map_take, ← List.map_drop]
     refine CallM.data hgm rfl ?_
     by_cases hG : G = []
     · have g1 : decide ((G.length : Int) > 0) = false := by rw [lenF, hG]; rfl
       by_cases hlt : m < inn.length
       · have k1 : ((m : Int) == (inn.length : Int)) = false := by simp; omega
         have k2 : decide ((m : Int) < (inn.length : Int)) = true := by simpa using hlt
         have k3 : inn[m]? = some inn[m] := List.getElem?_eq_getElem hlt
         generalize inn[m] = y at k3
         have hne : ¬ m = inn.length := by omega
         simp only [dNats, g1, k1, k2, k3, f3, p5, p6, p7, p8, nrow, roomOk, ↓Both_true, ↓Both_false, wx, reduceCtorEq, reduceIte, Nat.reduceAdd, Nat.reduceEqDiff, Nat.reduceLT, Nat.reduceLeDiff, wj, ← List.map_take, ← List.map_drop]
         exact ⟨(ordF_coarse (by simp only [List.map_cons, List.map_nil, coarse_rd, coarse_wr]; rfl)), hfin (out' := out) (run' := run ++ [y]) (by rw [k3, if_pos hG, if_neg (by simp [hG, hne])]) rfl rfl (.inr ⟨_, by rw [List.map_append]; rfl⟩)⟩
       · have hme : m = inn.length := by omega
         have k1 : ((m : Int) == (inn.length : Int)) = true := by rw [hme]; simp
         have k2 : decide ((m : Int) < (inn.length : Int)) = false := by simpa using hlt
         have k3 : inn[m]? = none := List.getElem?_eq_none (by omega)
         by_cases hrun : run = []
         · have g2 : decide ((run.length : Int) > 0) = false := by rw [lenF, hrun]; rfl
           simp only [dNats, g1, g2, k1, k2, f3, nrow, roomOk, ↓Both_true, ↓Both_false, wx, reduceCtorEq, reduceIte, Nat.reduceAdd, Nat.reduceEqDiff, Nat.reduceLT, Nat.reduceLeDiff, wj, ← List.map_take, ← List.map_drop]
           exact hfin (out' := out) (run' := []) (by rw [k3]; dsimp only; rw [if_pos hG, if_pos (.inr hme), if_pos hrun]) rfl rfl (.inr ⟨_, rfl⟩)
         · have g2 : decide ((run.length : Int) > 0) = true := by rw [lenF]; simp [hrun]
           simp only [dNats, g1, g2, k1, k2, f3, p1, p2, nrow, roomOk, ↓Both_true, ↓Both_false, wx, reduceCtorEq, reduceIte, Nat.reduceAdd, Nat.reduceEqDiff, Nat.reduceLT, Nat.reduceLeDiff, wj, ← List.map_take, ← List.map_drop]
           exact hfin (out' := out ++ [⟨false, run, []⟩]) (run' := []) (by rw [k3]; dsimp only; rw [if_pos hG, if_pos (.inr hme), if_neg hrun]) (by rw [List.map_append]; rfl) (by simp) (.inr ⟨_, rfl⟩)
     · have g1 : decide ((G.length : Int) > 0) = true := by rw [lenF]; simp [hG]
       by_cases hrun : run = []
       · have g2 : decide ((run.length : Int) > 0) = false := by rw [lenF, hrun]; rfl
         simp only [dNats, g1, g2, nrow, roomOk, ↓Both_true, ↓Both_false, wx, reduceCtorEq, reduceIte, Nat.reduceAdd, Nat.reduceEqDiff, Nat.reduceLT, Nat.reduceLeDiff, wj, ← List.map_take, ← List.map_drop]
         refine CallM.data hcm rfl ?_
         by_cases hlt : m < inn.length
         · have k2 : decide ((m : Int) < (inn.length : Int)) = true := by simpa using hlt
           have k3 : inn[m]? = some inn[m] := List.getElem?_eq_getElem hlt
           generalize inn[m] = y at k3
           simp only [dReg, dNats, k2, k3, f3, p1, p2, nrow, Nat.reduceMul, Nat.zero_mul, roomOk, ↓Both_true, ↓Both_false, wx, reduceCtorEq, reduceIte, Nat.reduceAdd, Nat.reduceEqDiff, Nat.reduceLT, Nat.reduceLeDiff, wj, ← List.map_take, ← List.map_drop]
           exact ⟨(ordF_coarse (by simp only [List.map_cons, List.map_nil, coarse_rd, coarse_wr]; rfl)), hfin (out' := out ++ [⟨true, [], confR rows G.length G⟩]) (run' := [y]) (by rw [k3, if_neg hG, if_pos (.inl hG), if_pos hrun]; rfl) (by rw [List.map_append]; rfl) (by simp) (.inr ⟨_, rfl⟩)⟩
         · have k2 : decide ((m : Int) < (inn.length : Int)) = false := by simpa using hlt
           have k3 : inn[m]? = none := List.getElem?_eq_none (by omega)
           simp only [dReg, dNats, k2, f3, p1, p2, nrow, roomOk, ↓Both_true, ↓Both_false, wx, reduceCtorEq, reduceIte, Nat.reduceAdd, Nat.reduceEqDiff, Nat.reduceLT, Nat.reduceLeDiff, wj, ← List.map_take, ← List.map_drop]
           exact hfin (out' := out ++ [⟨true, [], confR rows G.length G⟩]) (run' := []) (by rw [k3]; dsimp only; rw [if_neg hG, if_pos (.inl hG), if_pos hrun]) (by rw [List.map_append]; rfl) (by simp) (.inr ⟨_, rfl⟩)
       · have g2 : decide ((run.length : Int) > 0) = true := by rw [lenF]; simp [hrun]
         simp only [dNats, g1, g2, p1, p2, nrow, roomOk, ↓Both_true, ↓Both_false, wx, reduceCtorEq, reduceIte, Nat.reduceAdd, Nat.reduceEqDiff, Nat.reduceLT, Nat.reduceLeDiff, wj, ← List.map_take, ← List.map_drop]
         refine CallM.data hcm rfl ?_
         by_cases hlt : m < inn.length
         · have k2 : decide ((m : Int) < (inn.length : Int)) = true := by simpa using hlt
           have k3 : inn[m]? = some inn[m] := List.getElem?_eq_getElem hlt
           generalize inn[m] = y at k3
           simp only [dReg, dNats, k2, k3, f3, p3, p4, nrow, Nat.reduceMul, Nat.zero_mul, roomOk, ↓Both_true, ↓Both_false, wx, reduceCtorEq, reduceIte, Nat.reduceAdd, Nat.reduceEqDiff, Nat.reduceLT, Nat.reduceLeDiff, wj, ← List.map_take, ← List.map_drop]
           exact ⟨(ordF_coarse (by simp only [List.map_cons, List.map_nil, coarse_rd, coarse_wr]; rfl)), hfin (out' := (out ++ [⟨false, run, []⟩]) ++ [⟨true, [], confR rows G.length G⟩]) (run' := [y]) (by rw [k3, if_neg hG, if_pos (.inl hG), if_neg hrun]; rfl) (by rw [List.append_assoc, List.map_append]; rfl) (by simp) (.inr ⟨_, rfl⟩)⟩
         · have k2 : decide ((m : Int) < (inn.length : Int)) = false := by simpa using hlt
           have k3 : inn[m]? = none := List.getElem?_eq_none (by omega)
           simp only [dReg, dNats, k2, f3, p3, p4, nrow, roomOk, ↓Both_true, ↓Both_false, wx, reduceCtorEq, reduceIte, Nat.reduceAdd, Nat.reduceEqDiff, Nat.reduceLT, Nat.reduceLeDiff, wj, ← List.map_take, ← List.map_drop]
           exact hfin (out' := (out ++ [⟨false, run, []⟩]) ++ [⟨true, [], confR rows G.length G⟩]) (run' := []) (by rw [k3]; dsimp only; rw [if_neg hG, if_pos (.inl hG), if_neg hrun]) (by rw [List.append_assoc, List.map_append]; rfl) (by simp) (.inr ⟨_, rfl⟩))
 · have hm2 : m = inn.length + 1 := by omega
   subst hm2
   have f1 : decide (((inn.length + 1 : Nat) : Int) ≤ (inn.length : Int)) = false := decide_eq_false (by omega)
   have hc2 : (regRef rows living inn (inn.length + 1)).1 = out := by rw [← hc1]
   simp only [f1, hc2, dRegs, roomOk, ↓Both_true, ↓Both_false, wx, reduceCtorEq, reduceIte, Nat.reduceAdd, Nat.reduceEqDiff, Nat.reduceLT, Nat.reduceLeDiff, wj, ← List.map_take, ← List.map_drop]
end Go.Proofs.Lg

namespace Go.Proofs.Lg
open Go Go.Ab Go.Bb Go.RowKit Go.Proofs.Lh
theorem Regions_fn {g : Gr} (hg : GrOk g) : AFn Tryz.prog 14 [dGraph g] (dRegs (regionsL g.reach g.living)) := by
 by_cases hc : g.check = 0
 · have h := Regions_go hg hc
   have he := regRef_eq g.lv
   unfold setL at h
   rw [he] at h
   exact h
 · have hck := refCheck_fn hg
   have q1 : (g.check != 0) = true := by simpa using hc
   have hs : regionsL g.reach g.living = [] := by
     unfold Gr.living
     rw [if_neg hc]
     unfold regionsL
     simp [inL, outL, sortB, regRun, regStep, regEnd, List.range_succ]
   rw [hs]
   refine AFn_of (F := k_refRegions) (okb_refRegions.trans (by kernel_rfl)) (by simp [k_refRegions]) ?_
   simp only [k_refRegions, dGraph, roomOk, ↓Both_true, ↓Both_false, wx, reduceCtorEq, reduceIte, Nat.reduceAdd, Nat.reduceEqDiff, Nat.reduceLT, Nat.reduceLeDiff, wj, ← List.map_take, ← List.map_drop]
   refine CallM.data hck rfl ?_
   simp only [q1, dRegs, roomOk, ↓Both_true, ↓Both_false, wx, reduceCtorEq, reduceIte, Nat.reduceAdd, Nat.reduceEqDiff, Nat.reduceLT, Nat.reduceLeDiff, wj, ← List.map_take, ← List.map_drop]
theorem fl_take {α : Type} {l : List (List α)} {k : Nat} (hk : k < l.length) : (l.take (k + 1)).flatten = (l.take k).flatten ++ l[k] := by
 rw [List.take_succ_eq_append_getElem hk, List.flatten_append]; simp
theorem fl_le {α : Type} (l : List (List α)) (k : Nat) : (l.take k).flatten.length ≤ l.flatten.length := by
 have : l.flatten = (l.take k).flatten ++ (l.drop k).flatten := by rw [← List.flatten_append, List.take_append_drop]
 rw [this, List.length_append]; omega
theorem sizes8' {a b : Nat} (h : a + b ≤ 1000000) : (a + b) * 8 ≤ 140737488355328 ∧ a + b ≤ 9223372036854775807 := by omega
theorem Lines_fn (r : Reg) (hn : r.sides.length ≤ 1000000) (hl : r.all.length ≤ 1000000) : AFn Tryz.prog 47 [.agg (dReg r)] (dNats r.all) := by
 unfold Reg.all at hl ⊢
 rw [List.length_append] at hl
 obtain ⟨cf, ln, sd⟩ := r
 dsimp only at hn hl ⊢
 obtain ⟨p1, p2⟩ := sizes8' (a := ln.length) (b := 0) (by omega)
 rw [Nat.add_zero] at p1 p2
 refine AFn_of (F := k_refLines) (okb_refLines.trans (by kernel_rfl)) (by simp [k_refLines]) ?_
 simp only [k_refLines, dReg, dNats, p1, p2, roomOk, ↓Both_true, ↓Both_false, wx, reduceCtorEq, reduceIte, Nat.reduceAdd, Nat.reduceEqDiff, Nat.reduceLT, Nat.reduceLeDiff, wj, ← List.map_take, ← List.map_drop]
 refine LoopK.count (fun k => [(4, .d (.sc (.int .i64 k))), (1, .ptr 0 0), (3, .tsl 1 1 ((ln ++ (sd.take k).flatten).map nrow))]) (fun k => [.cells [.d (.sc (.bool cf)), .d (.sl 1 (ln.map nrow)), .d (.sl 1 (sd.map srow))], .row 3 1 (ln ++ (sd.take k).flatten).length]) (fun _ => True) sd.length (by simp [SubB, Go.Bb.look]) (by simp) trivial fun k hk _ => ?_
 by_cases hlt : k < sd.length
 · have h1 : decide ((k : Int) < (sd.length : Int)) = true := by simpa using hlt
   have h2 : sd[k]? = some sd[k] := List.getElem?_eq_getElem hlt
   have h3 : IntKind.i64.wrap ((k : Int) + 1) = ((k + 1 : Nat) : Int) := wrapN (by omega) (by omega)
   have h4 := fl_take hlt
   have h5 := fl_le sd (k + 1)
   rw [h4, List.length_append] at h5
   generalize sd[k] = x at h2 h4 h5
   obtain ⟨q1, q2⟩ := sizes8' (a := ln.length + (sd.take k).flatten.length) (b := x.length) (by omega)
   simp only [h1, h2, h3, h4, q1, q2, hlt, srow, dNats, List.map_append, ← Nat.add_assoc, roomOk, ↓Both_true, ↓Both_false, wx, reduceCtorEq, reduceIte, Nat.reduceAdd, Nat.reduceEqDiff, Nat.reduceLT, Nat.reduceLeDiff, wj, ← List.map_take, ← List.map_drop]
 · have h1 : decide ((k : Int) < (sd.length : Int)) = false := by simpa using hlt
   have h2 : sd.take k = sd := List.take_of_length_le (by omega)
   simp only [h1, h2, roomOk, ↓Both_true, ↓Both_false, wx, reduceCtorEq, reduceIte, Nat.reduceAdd, Nat.reduceEqDiff, Nat.reduceLT, Nat.reduceLeDiff, wj, ← List.map_take, ← List.map_drop]
theorem fm_take {α β : Type} (f : α → List β) {l : List α} {k : Nat} (hk : k < l.length) : (l.take (k + 1)).flatMap f = (l.take k).flatMap f ++ f l[k] := by
 rw [List.take_succ_eq_append_getElem hk, List.flatMap_append]; simp
theorem fm_le {α β : Type} (f : α → List β) (l : List α) (k : Nat) : ((l.take k).flatMap f).length ≤ (l.flatMap f).length := by
 have : l.flatMap f = (l.take k).flatMap f ++ (l.drop k).flatMap f := by rw [← List.flatMap_append, List.take_append_drop]
 rw [this, List.length_append]; omega
theorem Sequence_fn {g : Gr} (hg : GrOk g) (hn : (regionsL g.reach g.living).length ≤ 1000000) (hsd : ∀ r ∈ regionsL g.reach g.living, r.sides.length ≤ 1000000) : AFn Tryz.prog 16 [dGraph g] (dNats (seqL g.reach g.living)) := by
 have hr := Regions_fn hg
 have hall : (seqL g.reach g.living).length ≤ 1000000 := by
   rw [(seqL_perm g.lv).length_eq]
   have := g.living_len
   have := hg.few
   omega
 unfold seqL at hall ⊢
 generalize regionsL g.reach g.living = regs at *
 refine AFn_of (F := k_refSequence) (okb_refSequence.trans (by kernel_rfl)) (by simp [k_refSequence]) ?_
 simp only [k_refSequence, dGraph, roomOk, ↓Both_true, ↓Both_false, wx, reduceCtorEq, reduceIte, Nat.reduceAdd, Nat.reduceEqDiff, Nat.reduceLT, Nat.reduceLeDiff, wj, ← List.map_take, ← List.map_drop]
 refine CallM.data hr rfl ?_
 simp only [dRegs, dNats, roomOk, ↓Both_true, ↓Both_false, wx, reduceCtorEq, reduceIte, Nat.reduceAdd, Nat.reduceEqDiff, Nat.reduceLT, Nat.reduceLeDiff, wj, ← List.map_take, ← List.map_drop]
 refine LoopK.countJ (fun k => [(5, .d (.sc (.int .i64 k))), (4, .d (.sl 3 (regs.map dReg))), (3, .tsl 1 1 (((regs.take k).flatMap Reg.all).map nrow))]) (fun k J => .cells [.d (dLines g.lines), .d (dEdges g.edges)] :: .row 3 1 ((regs.take k).flatMap Reg.all).length :: J) (fun _ => True) regs.length [] (by simp [SubB, Go.Bb.look]) rfl trivial fun k J hk _ => ?_
 by_cases hlt : k < regs.length
 · have h1 : decide ((k : Int) < (regs.length : Int)) = true := by simpa using hlt
   have h2 : regs[k]? = some regs[k] := List.getElem?_eq_getElem hlt
   have h3 : IntKind.i64.wrap ((k : Int) + 1) = ((k + 1 : Nat) : Int) := wrapN (by omega) (by omega)
   have h4 := fm_take Reg.all hlt
   have h5 := fm_le Reg.all regs (k + 1)
   rw [h4, List.length_append] at h5
   have hc := Lines_fn regs[k] (hsd _ (List.getElem_mem _)) (by omega)
   generalize regs[k] = x at h2 h4 h5 hc
   obtain ⟨q1, q2⟩ := sizes8' (a := ((regs.take k).flatMap Reg.all).length) (b := x.all.length) (by omega)
   have hdr : ((dReg x).take 3) = dReg x := rfl
   have hdl : (3 ≤ (dReg x).length) := by show 3 ≤ 3; omega
   simp only [h1, h2, hdr, hdl, roomOk, ↓Both_true, ↓Both_false, wx, reduceCtorEq, reduceIte, Nat.reduceAdd, Nat.reduceEqDiff, Nat.reduceLT, Nat.reduceLeDiff, wj, ← List.map_take, ← List.map_drop]
   refine CallM.data hc rfl ?_
   simp only [h3, h4, q1, q2, hlt, dNats, List.map_append, roomOk, ↓Both_true, ↓Both_false, wx, reduceCtorEq, reduceIte, Nat.reduceAdd, Nat.reduceEqDiff, Nat.reduceLT, Nat.reduceLeDiff, wj, ← List.map_take, ← List.map_drop]
   exact ⟨_, rfl⟩
 · have h1 : decide ((k : Int) < (regs.length : Int)) = false := by simpa using hlt
   have h2 : regs.take k = regs := List.take_of_length_le (by omega)
   simp only [h1, h2, roomOk, ↓Both_true, ↓Both_false, wx, reduceCtorEq, reduceIte, Nat.reduceAdd, Nat.reduceEqDiff, Nat.reduceLT, Nat.reduceLeDiff, wj, ← List.map_take, ← List.map_drop]
end Go.Proofs.Lg

namespace Go.Proofs.Lg
open Go Go.Ab Go.Bb Go.RowKit Go.Proofs.Lh
def strow (b : ByteArray) : List D := [.sc (.string b)]
def dStrs (l : List ByteArray) : D := .sl 1 (l.map strow)
def txt (ls : List Vtx) (i : Nat) : ByteArray := match ls[i]? with | some x => x.text | none => ByteArray.empty
def txtL (ls : List Vtx) (l : List Nat) : List ByteArray := l.map (txt ls)
theorem vrow_text {v : Vtx} (h : v.id.length = 32) : (vrow v).drop 33 = [.sc (.string v.text), .sc (.bool v.living)] := by
 simp only [vrow, Vtx.cells, List.map_append, List.drop_append, List.length_map, h]
 rw [List.drop_eq_nil_of_le (by simp [h])]
 rfl
theorem txtL_take {ls : List Vtx} {l : List Nat} {k : Nat} (hk : k < l.length) : txtL ls (l.take (k + 1)) = txtL ls (l.take k) ++ [txt ls l[k]] := by
 unfold txtL
 rw [List.take_succ_eq_append_getElem hk, List.map_append]; rfl
theorem txtL_len (ls : List Vtx) (l : List Nat) : (txtL ls l).length = l.length := by unfold txtL; rw [List.length_map]
theorem sizes16 {k : Nat} (h : k ≤ 4000000) : (k + 1) * 16 ≤ 140737488355328 ∧ (k + 1) * 16 ≤ 140737488355328 ∧ k ≤ 9223372036854775806 ∧ k ≤ 9223372036854775806 := by omega
theorem any_take_step' {α : Type} {l : List α} {p : α → Bool} {k : Nat} (h : (l.take k).any p = false) (hk : k < l.length) (hp : p l[k] = false) : (l.take (k + 1)).any p = false := by
 rw [List.take_succ_eq_append_getElem hk, List.any_append, h]; simp [hp]
theorem any_hit' {α : Type} {l : List α} {p : α → Bool} {k : Nat} (hk : k < l.length) (hp : p l[k] = true) : l.any p = true := List.any_eq_true.2 ⟨l[k], List.getElem_mem _, hp⟩
theorem refTexts_fn {g : Gr} (hg : GrOk g) {l : List Nat} (hl : ∀ j ∈ l, j < g.lines.length) (hll : l.length ≤ 1000000) : AFn Tryz.prog 62 [dGraph g, dNats l] (dStrs (txtL g.lines l)) := by
 refine AFn_of (F := k_refTexts) (okb_refTexts.trans (by kernel_rfl)) (by simp [k_refTexts]) ?_
 simp only [k_refTexts, dGraph, dNats, dStrs, dLines, roomOk, ↓Both_true, ↓Both_false, wx, reduceCtorEq, reduceIte, Nat.reduceAdd, Nat.reduceEqDiff, Nat.reduceLT, Nat.reduceLeDiff, wj, ← List.map_take, ← List.map_drop]
 refine LoopK.countJ (fun k => [(6, .d (.sc (.int .i64 k))), (1, .d (.sl 1 (l.map nrow))), (2, .ptr 0 0), (5, .tsl 1 1 ((txtL g.lines (l.take k)).map strow))]) (fun k J => .cells [.d (.sl 35 (g.lines.map vrow)), .d (dEdges g.edges)] :: .row 9 1 (txtL g.lines (l.take k)).length :: J) (fun _ => True) l.length [] (by simp [SubB, Go.Bb.look, txtL]) rfl trivial fun k J hk _ => ?_
 by_cases hlt : k < l.length
 · have h1 : decide ((k : Int) < (l.length : Int)) = true := by simpa using hlt
   have h2 : l[k]? = some l[k] := List.getElem?_eq_getElem hlt
   have h3 : IntKind.i64.wrap ((k : Int) + 1) = ((k + 1 : Nat) : Int) := wrapN (by omega) (by omega)
   have hj := hl l[k] (List.getElem_mem _)
   have h4 := txtL_take (ls := g.lines) hlt
   have hlen : (txtL g.lines (l.take k)).length ≤ 4000000 := by rw [txtL_len, List.length_take]; omega
   generalize l[k] = y at h2 h4 hj
   have h5 : g.lines[y]? = some g.lines[y] := List.getElem?_eq_getElem hj
   have h6 : txt g.lines y = g.lines[y].text := by unfold txt; rw [h5]
   have h7 := vrow_text (hg.okl g.lines[y] (List.getElem_mem _)).1
   rw [h6] at h4
   generalize g.lines[y] = x at h4 h5 h7
   obtain ⟨p1, p2, p3, p4⟩ := sizes16 hlen
   simp only [h1, h2, h3, h4, h5, h7, p1, p2, p3, p4, hlt, nrow, strow, List.map_append, roomOk, ↓Both_true, ↓Both_false, wx, reduceCtorEq, reduceIte, Nat.reduceAdd, Nat.reduceEqDiff, Nat.reduceLT, Nat.reduceLeDiff, wj, ← List.map_take, ← List.map_drop]
   exact ⟨rfl, _, rfl⟩
 · have h1 : decide ((k : Int) < (l.length : Int)) = false := by simpa using hlt
   have h2 : l.take k = l := List.take_of_length_le (by omega)
   simp only [h1, h2, roomOk, ↓Both_true, ↓Both_false, wx, reduceCtorEq, reduceIte, Nat.reduceAdd, Nat.reduceEqDiff, Nat.reduceLT, Nat.reduceLeDiff, wj, ← List.map_take, ← List.map_drop]
theorem refClean_fn {g : Gr} (hg : GrOk g) (hn : (regionsL g.reach g.living).length ≤ 1000000) : AFn Tryz.prog 59 [dGraph g] (dBool (!(regionsL g.reach g.living).any fun r => r.conflict)) := by
 have hr := Regions_fn hg
 generalize regionsL g.reach g.living = regs at *
 refine AFn_of (F := k_refClean) (okb_refClean.trans (by kernel_rfl)) (by simp [k_refClean]) ?_
 simp only [k_refClean, dGraph, dBool, roomOk, ↓Both_true, ↓Both_false, wx, reduceCtorEq, reduceIte, Nat.reduceAdd, Nat.reduceEqDiff, Nat.reduceLT, Nat.reduceLeDiff, wj, ← List.map_take, ← List.map_drop]
 refine CallM.data hr rfl ?_
 simp only [dRegs, roomOk, ↓Both_true, ↓Both_false, wx, reduceCtorEq, reduceIte, Nat.reduceAdd, Nat.reduceEqDiff, Nat.reduceLT, Nat.reduceLeDiff, wj, ← List.map_take, ← List.map_drop]
 refine LoopK.count (fun k => [(4, .d (.sc (.int .i64 k))), (3, .d (.sl 3 (regs.map dReg)))]) (fun _ => [.cells [.d (dLines g.lines), .d (dEdges g.edges)]]) (fun k => ((regs.take k).any fun r => r.conflict) = false) regs.length (by simp [SubB, Go.Bb.look]) rfl (by simp) fun k hk hany => ?_
 by_cases hlt : k < regs.length
 · have h1 : decide ((k : Int) < (regs.length : Int)) = true := by simpa using hlt
   have h2 : regs[k]? = some regs[k] := List.getElem?_eq_getElem hlt
   have h3 : IntKind.i64.wrap ((k : Int) + 1) = ((k + 1 : Nat) : Int) := wrapN (by omega) (by omega)
   have h4 : regs[k].conflict = false → ((regs.take (k + 1)).any fun r => r.conflict) = false := fun h => any_take_step' (p := fun r : Reg => r.conflict) hany hlt h
   have h5 : regs[k].conflict = true → (regs.any fun r => r.conflict) = true := fun h => any_hit' (p := fun r : Reg => r.conflict) hlt h
   generalize regs[k] = r at h2 h4 h5
   obtain ⟨cf, ln, sd⟩ := r
   dsimp only at h4 h5
   cases cf with
   | true => simp only [h1, h2, h5 rfl, dReg, roomOk, ↓Both_true, ↓Both_false, wx, reduceCtorEq, reduceIte, Nat.reduceAdd, Nat.reduceEqDiff, Nat.reduceLT, Nat.reduceLeDiff, wj, ← List.map_take, ← List.map_drop]
   | false =>
     simp only [h1, h2, h3, hlt, dReg, roomOk, ↓Both_true, ↓Both_false, wx, reduceCtorEq, reduceIte, Nat.reduceAdd, Nat.reduceEqDiff, Nat.reduceLT, Nat.reduceLeDiff, wj, ← List.map_take, ← List.map_drop]
     exact h4 rfl
 · have h1 : decide ((k : Int) < (regs.length : Int)) = false := by simpa using hlt
   have h2 : regs.take k = regs := List.take_of_length_le (by omega)
   rw [h2] at hany
   simp only [h1, hany, roomOk, ↓Both_true, ↓Both_false, wx, reduceCtorEq, reduceIte, Nat.reduceAdd, Nat.reduceEqDiff, Nat.reduceLT, Nat.reduceLeDiff, wj, ← List.map_take, ← List.map_drop]
theorem refSame04_fn (l : List ByteArray) (hll : l.length ≤ 1000000) : AFn Tryz.prog 63 [dStrs l, dStrs l] (dBool true) := by
 have h0 : ((l.length : Int) != (l.length : Int)) = false := by simp
 refine AFn_of (F := k_refSame04) (okb_refSame04.trans (by kernel_rfl)) (by simp [k_refSame04]) ?_
 simp only [k_refSame04, dStrs, dBool, h0, roomOk, ↓Both_true, ↓Both_false, wx, reduceCtorEq, reduceIte, Nat.reduceAdd, Nat.reduceEqDiff, Nat.reduceLT, Nat.reduceLeDiff, wj, ← List.map_take, ← List.map_drop]
 refine LoopK.count (fun k => [(5, .d (.sc (.int .i64 k))), (0, .d (.sl 1 (l.map strow))), (1, .d (.sl 1 (l.map strow)))]) (fun _ => []) (fun _ => True) l.length (by simp [SubB, Go.Bb.look]) rfl trivial fun k hk _ => ?_
 by_cases hlt : k < l.length
 · have h1 : decide ((k : Int) < (l.length : Int)) = true := by simpa using hlt
   have h2 : l[k]? = some l[k] := List.getElem?_eq_getElem hlt
   have h3 : IntKind.i64.wrap ((k : Int) + 1) = ((k + 1 : Nat) : Int) := wrapN (by omega) (by omega)
   generalize l[k] = y at h2
   have h4 : (!(y.toList == y.toList)) = false := by simp
   simp only [h1, h2, h3, h4, hlt, strow, roomOk, ↓Both_true, ↓Both_false, wx, reduceCtorEq, reduceIte, Nat.reduceAdd, Nat.reduceEqDiff, Nat.reduceLT, Nat.reduceLeDiff, wj, ← List.map_take, ← List.map_drop]
   first | rfl | exact ⟨rfl, trivial⟩ | exact rfl
 · have h1 : decide ((k : Int) < (l.length : Int)) = false := by simpa using hlt
   simp only [h1, roomOk, ↓Both_true, ↓Both_false, wx, reduceCtorEq, reduceIte, Nat.reduceAdd, Nat.reduceEqDiff, Nat.reduceLT, Nat.reduceLeDiff, wj, ← List.map_take, ← List.map_drop]
def growF (n : Nat) (rows : List (List D)) : AV := if n = 0 then .nil 1 else .tsl 2 1 rows
def growS (A j : AObj) (t n : Nat) (J : List AObj) : List AObj := if n = 0 then [A] else A :: j :: .row t 1 n :: J
theorem growF_nil (rows : List (List D)) : growF 0 rows = .nil 1 := rfl
theorem growF_cons (n : Nat) (rows : List (List D)) : growF (n + 1) rows = .tsl 2 1 rows := rfl
theorem growS_nil (A j : AObj) (t : Nat) (J : List AObj) : growS A j t 0 J = [A] := rfl
theorem growS_cons (A j : AObj) (t n : Nat) (J : List AObj) : growS A j t (n + 1) J = A :: j :: .row t 1 (n + 1) :: J := rfl
theorem linTexts_fn {g : Gr} (hg : GrOk g) {l : List Nat} (hl : ∀ j ∈ l, j < g.lines.length) (hll : l.length ≤ 1000000) : AFn Tryz.prog 58 [dGraph g, dNats l] (dStrs (txtL g.lines l)) := by
 refine AFn_of (F := k_linTexts) (okb_linTexts.trans (by kernel_rfl)) (by simp [k_linTexts]) ?_
 simp only [k_linTexts, dGraph, dNats, dStrs, dLines, roomOk, ↓Both_true, ↓Both_false, wx, reduceCtorEq, reduceIte, Nat.reduceAdd, Nat.reduceEqDiff, Nat.reduceLT, Nat.reduceLeDiff, wj, ← List.map_take, ← List.map_drop]
 refine LoopK.at (fun b : Nat × AObj × List AObj => [(10, .d (.sc (.int .i64 b.1))), (9, .d (.sc (.int .i64 l.length))), (8, .d (.sl 1 (l.map nrow))), (2, .ptr 0 0), (5, growF b.1 ((txtL g.lines (l.take b.1)).map strow))]) (fun b => growS (.cells [.d (.sl 35 (g.lines.map vrow)), .d (dEdges g.edges)]) b.2.1 9 b.1 b.2.2)
   (fun m b => m + b.1 = l.length) l.length (0, .row 0 0 0, []) (by simp [SubB, Go.Bb.look, growF]) rfl rfl ?_
 rintro m ⟨k, j, J⟩ hm
 dsimp only at hm ⊢
 by_cases hlt : k < l.length
 · have h1 : decide ((k : Int) < (l.length : Int)) = true := by simpa using hlt
   have h2 : l[k]? = some l[k] := List.getElem?_eq_getElem hlt
   have h3 : IntKind.i64.wrap ((k : Int) + 1) = ((k + 1 : Nat) : Int) := wrapN (by omega) (by omega)
   have hj := hl l[k] (List.getElem_mem _)
   have h4 := txtL_take (ls := g.lines) hlt
   have hlen : (txtL g.lines (l.take k)).length = k := by rw [txtL_len, List.length_take]; omega
   generalize l[k] = y at h2 h4 hj
   have h5 : g.lines[y]? = some g.lines[y] := List.getElem?_eq_getElem hj
   have h6 : txt g.lines y = g.lines[y].text := by unfold txt; rw [h5]
   have h7 := vrow_text (hg.okl g.lines[y] (List.getElem_mem _)).1
   rw [h6] at h4
   generalize g.lines[y] = x at h4 h5 h7
   obtain ⟨p1, p2, p3, p4⟩ := sizes16 (k := k) (by omega)
   cases k with
   | zero =>
     have h8 : txtL g.lines (l.take 0) = [] := by simp [txtL]
     rw [h8] at h4
     have c1 : roomOk 1 16 = true := by decide
     simp only [growF_nil, growS_nil, h1, h2, h3, h5, h7, c1, nrow, strow, List.map_append, ↓Both_true, ↓Both_false, wx, reduceCtorEq, reduceIte, Nat.reduceAdd, Nat.reduceEqDiff, Nat.reduceLT, Nat.reduceLeDiff, wj, ← List.map_take, ← List.map_drop]
     refine ⟨m - 1, (1, .row 9 1 1, []), by omega, ⟨rfl, ?_⟩, rfl, by dsimp only; omega⟩
     dsimp only
     rw [h4]
     rfl
   | succ k =>
     have p5 : k ≤ 9223372036854775805 := by omega
     simp only [growF_cons, growS_cons, h1, h2, h3, h4, h5, h7, p1, p2, p5, hlen, nrow, strow, List.map_append, roomOk, ↓Both_true, ↓Both_false, wx, reduceCtorEq, reduceIte, Nat.reduceAdd, Nat.reduceEqDiff, Nat.reduceLT, Nat.reduceLeDiff, wj, ← List.map_take, ← List.map_drop]
     refine ⟨m - 1, (k + 1 + 1, j, J ++ [.row 9 1 1]), by omega, ⟨rfl, ?_⟩, rfl, by dsimp only; omega⟩
     dsimp only
     rw [h4, growF_cons, List.map_append]
     rfl
 · have hk : k = l.length := by omega
   subst hk
   have h1 : decide ((l.length : Int) < (l.length : Int)) = false := by simp
   have h2 : l.take l.length = l := List.take_length
   cases hl0 : l.length with
   | zero =>
     have : l = [] := List.eq_nil_of_length_eq_zero hl0
     subst this
     have h1' : decide (((0 : Nat) : Int) < ((0 : Nat) : Int)) = false := by decide
     simp only [growF_nil, growS_nil, h1', List.length_nil, txtL, List.map_nil, roomOk, ↓Both_true, ↓Both_false, wx, reduceCtorEq, reduceIte, Nat.reduceAdd, Nat.reduceEqDiff, Nat.reduceLT, Nat.reduceLeDiff, wj, ← List.map_take, ← List.map_drop]
   | succ n =>
     rw [hl0] at h1 h2
     simp only [growF_cons, growS_cons, h1, h2, roomOk, ↓Both_true, ↓Both_false, wx, reduceCtorEq, reduceIte, Nat.reduceAdd, Nat.reduceEqDiff, Nat.reduceLT, Nat.reduceLeDiff, wj, ← List.map_take, ← List.map_drop]
end Go.Proofs.Lg
