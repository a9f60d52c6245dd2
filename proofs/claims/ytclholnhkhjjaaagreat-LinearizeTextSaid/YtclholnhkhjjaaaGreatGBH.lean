/-
  Part GBH of this claim's proof. Joined by merge.py from the texts of wip/tpl.
-/
import Derived.Test.YtclholnhkhjjaaaGreatGBF
import Derived.Test.YtclholnhkhjjaaaGreatGBG
set_option linter.unusedVariables false
set_option linter.unusedSimpArgs false
set_option linter.unnecessarySimpa false
namespace Go.Proofs.Lh
open Go Go.Bb Go.RowKit Go.Proofs.Lg
set_option maxRecDepth 10000 in
set_option maxHeartbeats 1000000 in
theorem refHunks_fn {old new : Gr} (ho : GrOk old) (hn : GrOk new) : AFn Tryz.prog 21 [dGraph old, dGraph new] (.tup [dHks (hunksR old new).1, .sc (.int .i64 (hunksR old new).2)]) := by
 have hro : (regionsL old.reach old.living).length ≤ 1000000 := Nat.le_trans (reg_bounds old).1 ho.few
 have hrn : (regionsL new.reach new.living).length ≤ 1000000 := Nat.le_trans (reg_bounds new).1 hn.few
 have hc1 := (refCheck_fn ho)
 have hc2 := (refCheck_fn hn)
 have hl1 : AFn Tryz.prog 59 [dGraph old] (dBool (!(regionsL old.reach old.living).any Reg.conflict)) := (refClean_fn ho hro)
 have hl2 : AFn Tryz.prog 59 [dGraph new] (dBool (!(regionsL new.reach new.living).any Reg.conflict)) := (refClean_fn hn hrn)
 have hs1 := (Sequence_fn ho hro fun r hr => Nat.le_trans ((reg_bounds old).2 r hr).2.1 ho.few)
 have hs2 := (Sequence_fn hn hrn fun r hr => Nat.le_trans ((reg_bounds new).2 r hr).2.1 hn.few)
 obtain ⟨a1, a2, a3⟩ := seq_facts ho
 obtain ⟨b1, b2, b3⟩ := seq_facts hn
 have ht1 := (refTexts_fn ho a1 a2)
 have ht2 := (refTexts_fn hn b1 b2)
 refine AFn_of (F := k_refHunks) (okb_refHunks.trans (by kernel_rfl)) (by simp [k_refHunks]) ?_
 simp only [k_refHunks, dGraph, ↓Both_true, ↓Both_false, wx, reduceCtorEq, reduceIte, Nat.reduceAdd, Nat.reduceEqDiff, Nat.reduceLT, Nat.reduceLeDiff]
 refine CallM.data hc1 rfl ?_
 by_cases q1 : old.check = 0
 · have q1' : (old.check != 0) = false := by simp [q1]
   simp only [dGraph, q1', ↓Both_true, ↓Both_false, wx, reduceCtorEq, reduceIte, Nat.reduceAdd, Nat.reduceEqDiff, Nat.reduceLT, Nat.reduceLeDiff]
   refine CallM.data hc2 rfl ?_
   by_cases q2 : new.check = 0
   · have q2' : (new.check != 0) = false := by simp [q2]
     simp only [dGraph, q1', q2', ↓Both_true, ↓Both_false, wx, reduceCtorEq, reduceIte, Nat.reduceAdd, Nat.reduceEqDiff, Nat.reduceLT, Nat.reduceLeDiff]
     refine CallM.data hl1 rfl ?_
     cases q3 : (regionsL old.reach old.living).any Reg.conflict with
     | true =>
       have hr : hunksR old new = ([], 15) := by unfold hunksR; rw [if_neg (by simp [q1]), if_neg (by simp [q2]), if_pos (.inl q3)]
       simp only [dGraph, q1', q2', hr, dBool, dHks, deepD, Nat.zero_mul, ↓Both_true, ↓Both_false, wx, reduceCtorEq, reduceIte, Nat.reduceAdd, Nat.reduceEqDiff, Nat.reduceLT, Nat.reduceLeDiff]
     | false =>
       simp only [dGraph, q1', q2', dBool, ↓Both_true, ↓Both_false, wx, reduceCtorEq, reduceIte, Nat.reduceAdd, Nat.reduceEqDiff, Nat.reduceLT, Nat.reduceLeDiff]
       refine CallM.data hl2 rfl ?_
       cases q4 : (regionsL new.reach new.living).any Reg.conflict with
       | true =>
         have hr : hunksR old new = ([], 15) := by unfold hunksR; rw [if_neg (by simp [q1]), if_neg (by simp [q2]), if_pos (.inr q4)]
         simp only [dGraph, q1', q2', hr, dBool, dHks, deepD, Nat.zero_mul, ↓Both_true, ↓Both_false, wx, reduceCtorEq, reduceIte, Nat.reduceAdd, Nat.reduceEqDiff, Nat.reduceLT, Nat.reduceLeDiff]
       | false =>
         have h22 : 2 ≤ 2 := Nat.le_refl _
         simp only [dGraph, q1', q2', dBool, h22, ↓Both_true, ↓Both_false, wx, reduceCtorEq, reduceIte, Nat.reduceAdd, Nat.reduceEqDiff, Nat.reduceLT, Nat.reduceLeDiff]
         refine CallM.data hs1 rfl ?_
         simp only [dGraph, q1', q2', dBool, h22, ↓Both_true, ↓Both_false, wx, reduceCtorEq, reduceIte, Nat.reduceAdd, Nat.reduceEqDiff, Nat.reduceLT, Nat.reduceLeDiff]
         refine CallM.data hs2 rfl ?_
         simp only [dGraph, q1', q2', dBool, h22, ↓Both_true, ↓Both_false, wx, reduceCtorEq, reduceIte, Nat.reduceAdd, Nat.reduceEqDiff, Nat.reduceLT, Nat.reduceLeDiff]
         refine ⟨(ordF_coarse (by simp only [List.map_cons, List.map_nil, coarse_rd, coarse_wr]; rfl)), ?_⟩
         have hlo := linesOk_of_check q1
         have hln := linesOk_of_check q2
         have hm := refMatching_fn ho hn a1 b1 a2 b2 (f := fM old new (seqL old.reach old.living) (seqL new.reach new.living)) (fun i k h => fM_lt h) (fun i k p q x y e1 e2 e3 e4 => fM_iff hln b3 e1 e2 e3 e4)
         have hmm := mRun_mGo (f := fM old new (seqL old.reach old.living) (seqL new.reach new.living)) (fun i j k hi hj => fM_inj hlo a3 hi hj) (List.range' 0 (seqL old.reach old.living).length) (-1) [] (List.nodup_range' (step := 1)) (fun i _ k _ => by omega)
         cases hR : mGo (fM old new (seqL old.reach old.living) (seqL new.reach new.living)) (List.range' 0 (seqL old.reach old.living).length) (-1) [] with
         | none =>
           have hr : hunksR old new = ([], 9) := by unfold hunksR; rw [if_neg (by simp [q1]), if_neg (by simp [q2]), if_neg (by simp [q3, q4]), hR]
           rw [hmm.2 hR] at hm
           refine CallM.data hm rfl ?_
           simp only [dGraph, q1', q2', dBool, h22, hr, dHks, deepD, Nat.zero_mul, ↓Both_true, ↓Both_false, wx, reduceCtorEq, reduceIte, Nat.reduceAdd, Nat.reduceEqDiff, Nat.reduceLT, Nat.reduceLeDiff]
         | some l =>
           have hr : hunksR old new = (hGo (txtL old.lines (seqL old.reach old.living)) (txtL new.lines (seqL new.reach new.living)) 0 0 l, 0) := by unfold hunksR; rw [if_neg (by simp [q1]), if_neg (by simp [q2]), if_neg (by simp [q3, q4]), hR]
           have hml := mGo_len _ _ _ _ hR
           rw [List.length_range', List.length_nil, Nat.zero_add] at hml
           have hA : (txtL old.lines (seqL old.reach old.living)).length ≤ 1000000 := by rw [txtL_len]; exact a2
           have hB : (txtL new.lines (seqL new.reach new.living)).length ≤ 1000000 := by rw [txtL_len]; exact b2
           have hof := (refOf08_fn _ _ l (fM_from hR) hA hB (by omega) (refCheck03_fn _ _ l (fM_from hR) hA hB (by omega)))
           rw [hmm.1 l hR] at hm
           refine CallM.data hm rfl ?_
           simp only [dGraph, q1', q2', dBool, dHks, deepD, Nat.zero_mul, hr, h22, ↓Both_true, ↓Both_false, wx, reduceCtorEq, reduceIte, Nat.reduceAdd, Nat.reduceEqDiff, Nat.reduceLT, Nat.reduceLeDiff]
           refine CallM.data ht1 rfl ?_
           simp only [dGraph, q1', q2', dBool, dHks, deepD, Nat.zero_mul, hr, h22, ↓Both_true, ↓Both_false, wx, reduceCtorEq, reduceIte, Nat.reduceAdd, Nat.reduceEqDiff, Nat.reduceLT, Nat.reduceLeDiff]
           refine CallM.data ht2 rfl ?_
           simp only [dGraph, q1', q2', dBool, dHks, deepD, Nat.zero_mul, hr, h22, ↓Both_true, ↓Both_false, wx, reduceCtorEq, reduceIte, Nat.reduceAdd, Nat.reduceEqDiff, Nat.reduceLT, Nat.reduceLeDiff]
           refine CallM.data hof rfl ?_
           simp only [dGraph, q1', q2', dBool, dHks, Nat.zero_mul, hr, h22, deepD, AV.toL, ↓Both_true, ↓Both_false, wx, reduceCtorEq, reduceIte, Nat.reduceAdd, Nat.reduceEqDiff, Nat.reduceLT, Nat.reduceLeDiff]
           exact (ordF_coarse (by simp only [List.map_cons, List.map_nil, coarse_rd, coarse_wr]; rfl))
   · have q2' : (new.check != 0) = true := by simpa using q2
     have hr : hunksR old new = ([], new.check) := by unfold hunksR; rw [if_neg (by simp [q1]), if_pos q2]
     simp only [q2', hr, dHks, deepD, Nat.zero_mul, ↓Both_true, ↓Both_false, wx, reduceCtorEq, reduceIte, Nat.reduceAdd, Nat.reduceEqDiff, Nat.reduceLT, Nat.reduceLeDiff]
 · have q1' : (old.check != 0) = true := by simpa using q1
   have hr : hunksR old new = ([], old.check) := by unfold hunksR; rw [if_pos q1]
   simp only [q1', hr, dHks, deepD, Nat.zero_mul, ↓Both_true, ↓Both_false, wx, reduceCtorEq, reduceIte, Nat.reduceAdd, Nat.reduceEqDiff, Nat.reduceLT, Nat.reduceLeDiff]
def dGraphV (g : Gr) : List Go.Ab.D := [dLines g.lines, dEdges g.edges]
theorem Great_fn {g : Gr} (hok : ∀ x ∈ g.lines, x.ok) (h1 : g.lines.length ≤ 9223372036854775807) (h2 : g.edges.length ≤ 9223372036854775807) : AFn Tryz.prog 35 [dGraph g] (dBool g.big) := by
 refine AFn_of (F := k_Great) (okb_Great.trans (by kernel_rfl)) (by simp [k_Great]) ?_
 simp only [k_Great, dGraph, dLines, ↓Both_true, ↓Both_false, wx, reduceCtorEq, reduceIte, Nat.reduceAdd, Nat.reduceEqDiff, Nat.reduceLT, Nat.reduceLeDiff]
 refine LoopK.count (fun k => [(3, .d (.sc (.int .i64 k))), (1, .ptr 0 0)]) (fun _ => [.cells [.d (.sl 35 (g.lines.map vrow)), .d (dEdges g.edges)]]) (fun k => (g.lines.take k).any (fun x => decide (40 < x.text.size)) = false) g.lines.length (by simp [SubB, Go.Bb.look]) rfl rfl fun k hk hi => ?_
 by_cases hlt : k < g.lines.length
 · have f1 : decide ((k : Int) < (g.lines.length : Int)) = true := by simpa using hlt
   have f2 : g.lines[k]? = some g.lines[k] := List.getElem?_eq_getElem hlt
   have f3 : IntKind.i64.wrap ((k : Int) + 1) = ((k + 1 : Nat) : Int) := wrapN (by omega) (by omega)
   have hx := hok g.lines[k] (List.getElem_mem _)
   have h8 : decide (40 < g.lines[k].text.size) = false → (g.lines.take (k + 1)).any (fun x => decide (40 < x.text.size)) = false := fun h => any_take_step' hi hlt h
   have h9 : decide (40 < g.lines[k].text.size) = true → g.big = true := fun h => by
     have : g.lines.any (fun x => decide (40 < x.text.size)) = true := any_hit' hlt h
     unfold Gr.big; rw [this]; rfl
   generalize g.lines[k] = x at f2 hx h8 h9
   have h5 := vrow_33 hx
   have h6 : decide ((x.text.size : Int) > 40) = decide (40 < x.text.size) := by by_cases h : 40 < x.text.size <;> simp [h] <;> omega
   cases hc : decide (40 < x.text.size) with
   | true =>
     simp only [f1, f2, h5, h6, hc, h9 hc, dBool, deepD, AV.toL, ↓Both_true, ↓Both_false, wx, reduceCtorEq, reduceIte, Nat.reduceAdd, Nat.reduceEqDiff, Nat.reduceLT, Nat.reduceLeDiff, wj, ← List.map_take, ← List.map_drop]
   | false =>
     simp only [f1, f2, f3, h5, h6, hc, hlt, h8 hc, dBool, deepD, AV.toL, ↓Both_true, ↓Both_false, wx, reduceCtorEq, reduceIte, Nat.reduceAdd, Nat.reduceEqDiff, Nat.reduceLT, Nat.reduceLeDiff, wj, ← List.map_take, ← List.map_drop]
 · have f1 : decide ((k : Int) < (g.lines.length : Int)) = false := by simpa using hlt
   have h2 : g.lines.take k = g.lines := List.take_of_length_le (by omega)
   rw [h2] at hi
   have hb : g.big = (decide (16 < g.lines.length) || decide (60 < g.edges.length)) := by unfold Gr.big; rw [hi]; rfl
   have h6 : decide ((g.lines.length : Int) > 16) = decide (16 < g.lines.length) := by by_cases h : 16 < g.lines.length <;> simp [h] <;> omega
   have h7 : decide ((g.edges.length : Int) > 60) = decide (60 < g.edges.length) := by by_cases h : 60 < g.edges.length <;> simp [h] <;> omega
   rw [hb]
   cases hc : decide (16 < g.lines.length) with
   | true => simp only [f1, h6, hc, dBool, dEdges, deepD, AV.toL, ↓Both_true, ↓Both_false, wx, reduceCtorEq, reduceIte, Nat.reduceAdd, Nat.reduceEqDiff, Nat.reduceLT, Nat.reduceLeDiff, wj, ← List.map_take, ← List.map_drop]
   | false => simp only [f1, h6, h7, hc, dBool, dEdges, deepD, AV.toL, ↓Both_true, ↓Both_false, wx, reduceCtorEq, reduceIte, Nat.reduceAdd, Nat.reduceEqDiff, Nat.reduceLT, Nat.reduceLeDiff, wj, ← List.map_take, ← List.map_drop]
def GrIn0 (g : Gr) : Prop := (∀ x ∈ g.lines, x.ok) ∧ g.lines.length ≤ 9223372036854775807 ∧ g.edges.length ≤ 9223372036854775807
theorem IndexFuncGraph_fn (gs : List Gr) (hok : ∀ g ∈ gs, GrIn0 g) (hn : gs.length ≤ 1000000) (s : List AObj) :
   FnK Tryz.prog 68 [.d (.sl 2 (gs.map dGraphV)), .clo 35 [] []] s fun d s' => d = .d (.sc (.int .i64 (idxI Gr.big gs))) ∧ s' = s := by
 refine FnK.of (F := k_IndexFuncGraph) (okb_IndexFuncGraph.trans (by kernel_rfl)) (by simp [k_IndexFuncGraph]) ?_
 simp only [k_IndexFuncGraph, ↓Both_true, ↓Both_false, wx, reduceCtorEq, reduceIte, Nat.reduceAdd, Nat.reduceEqDiff, Nat.reduceLT, Nat.reduceLeDiff, wj, ← List.map_take, ← List.map_drop]
 refine LoopK.count (fun k => [(8, .d (.sc (.int .i64 k))), (7, .d (.sc (.int .i64 gs.length))), (0, .d (.sl 2 (gs.map dGraphV))), (1, .clo 35 [] [])]) (fun _ => s) (fun k => (gs.take k).any Gr.big = false) gs.length (by simp [SubB, Go.Bb.look, intD]) rfl rfl fun k hk hi => ?_
 by_cases hlt : k < gs.length
 · have h1 : decide ((k : Int) < (gs.length : Int)) = true := by simpa using hlt
   have h2 : gs[k]? = some gs[k] := List.getElem?_eq_getElem hlt
   have h3 : IntKind.i64.wrap ((k : Int) + 1) = ((k + 1 : Nat) : Int) := wrapN (by omega) (by omega)
   obtain ⟨k1, k2, k3⟩ := hok gs[k] (List.getElem_mem _)
   have h5 := Great_fn k1 k2 k3
   have h8 : gs[k].big = false → (gs.take (k + 1)).any Gr.big = false := fun h => any_take_step' hi hlt h
   have h9 : gs[k].big = true → idxI Gr.big gs = k := fun h => idxI_hit hlt hi h
   clear k1 k2 k3
   generalize gs[k] = r at h2 h5 h8 h9
   have h6 : (dGraphV r).length = 2 := rfl
   have h7 : 2 ≤ 2 := Nat.le_refl _
   simp only [h1, h2, h3, h6, h7, hlt, ↓Both_true, ↓Both_false, wx, reduceCtorEq, reduceIte, Nat.reduceAdd, Nat.reduceEqDiff, Nat.reduceLT, Nat.reduceLeDiff, wj, ← List.map_take, ← List.map_drop]
   refine CallM.data h5 rfl ?_
   cases hc : r.big with
   | true => simp only [h1, h2, h3, h6, h7, hlt, h9 hc, dBool, ↓Both_true, ↓Both_false, wx, reduceCtorEq, reduceIte, Nat.reduceAdd, Nat.reduceEqDiff, Nat.reduceLT, Nat.reduceLeDiff, wj, ← List.map_take, ← List.map_drop]
   | false => simp only [h1, h2, h3, h6, h7, hlt, h8 hc, dBool, ↓Both_true, ↓Both_false, wx, reduceCtorEq, reduceIte, Nat.reduceAdd, Nat.reduceEqDiff, Nat.reduceLT, Nat.reduceLeDiff, wj, ← List.map_take, ← List.map_drop]
 · have h1 : decide ((k : Int) < (gs.length : Int)) = false := by simpa using hlt
   have h2 : gs.take k = gs := List.take_of_length_le (by omega)
   rw [h2] at hi
   simp only [h1, idxI_none hi, ↓Both_true, ↓Both_false, wx, reduceCtorEq, reduceIte, Nat.reduceAdd, Nat.reduceEqDiff, Nat.reduceLT, Nat.reduceLeDiff, wj, ← List.map_take, ← List.map_drop]
theorem ContainsFuncGraph_fn (gs : List Gr) (hok : ∀ g ∈ gs, GrIn0 g) (hn : gs.length ≤ 1000000) (s : List AObj) : FnK Tryz.prog 34 [.d (.sl 2 (gs.map dGraphV)), .clo 35 [] []] s fun d s' => d = .d (dBool (gs.any Gr.big)) ∧ s' = s := by
 refine FnK.of (F := k_ContainsFuncGraph) (okb_ContainsFuncGraph.trans (by kernel_rfl)) (by simp [k_ContainsFuncGraph]) ?_
 have h1 := idxI_ge Gr.big gs
 simp only [k_ContainsFuncGraph, ↓Both_true, ↓Both_false, wx, reduceCtorEq, reduceIte, Nat.reduceAdd, Nat.reduceEqDiff, Nat.reduceLT, Nat.reduceLeDiff, wj, ← List.map_take, ← List.map_drop]
 refine CallM.fn ?_
 refine (IndexFuncGraph_fn gs hok hn s).mono ?_
 rintro d s' ⟨rfl, rfl⟩
 simp only [h1, dBool, ↓Both_true, ↓Both_false, wx, reduceCtorEq, reduceIte, Nat.reduceAdd, Nat.reduceEqDiff, Nat.reduceLT, Nat.reduceLeDiff, wj, ← List.map_take, ← List.map_drop]
theorem great_fn (gs : List Gr) (hok : ∀ g ∈ gs, GrIn0 g) (hn : gs.length ≤ 1000000) : AFn Tryz.prog 7 [.sl 2 (gs.map dGraphV)] (dBool (gs.any Gr.big)) := by
 refine AFn_of (F := k_great) (okb_great.trans (by kernel_rfl)) (by simp [k_great]) ?_
 simp only [k_great, ↓Both_true, ↓Both_false, wx, reduceCtorEq, reduceIte, Nat.reduceAdd, Nat.reduceEqDiff, Nat.reduceLT, Nat.reduceLeDiff, wj, ← List.map_take, ← List.map_drop]
 refine CallM.fn ?_
 refine (ContainsFuncGraph_fn gs hok hn []).mono ?_
 rintro d s' ⟨rfl, rfl⟩
 simp only [dBool, deepD, AV.toL, ↓Both_true, ↓Both_false, wx, reduceCtorEq, reduceIte, Nat.reduceAdd, Nat.reduceEqDiff, Nat.reduceLT, Nat.reduceLeDiff, wj, ← List.map_take, ← List.map_drop]
theorem awake_fn : AFn Tryz.prog 8 [] (dBool true) := by
 refine ⟨enters_fn Tryz.func8 rfl (by rfl), fun I w vs hl hv => ?_⟩
 obtain rfl : vs = [] := List.eq_nil_of_length_eq_zero hl
 exact (awake_any w).mono fun e w' ⟨he, hb⟩ => ⟨_, he, .sc _, hb⟩
end Go.Proofs.Lh

namespace Go.Proofs.Lh
open Go Go.Bb Go.RowKit Go.Proofs.Lg
structure GrAny (g : Gr) : Prop where
 okl : ∀ x ∈ g.lines, x.ok
 oke : ∀ e ∈ g.edges, I64 e.1 ∧ I64 e.2
 len : g.lines.length ≤ 9223372036854775807
 elen : g.edges.length ≤ 9223372036854775807
theorem GrAny.in0 {g : Gr} (h : GrAny g) : GrIn0 g := ⟨h.okl, h.len, h.elen⟩
theorem GrAny.ok {g : Gr} (h : GrAny g) (hb : g.big = false) : GrOk g := by
 unfold Gr.big at hb
 rw [Bool.or_eq_false_iff, Bool.or_eq_false_iff, decide_eq_false_iff_not, decide_eq_false_iff_not] at hb
 exact ⟨h.okl, h.oke, by omega, by omega⟩
theorem hGo_len (a b : List ByteArray) : ∀ (l : List Mt) (i k : Nat), (hGo a b i k l).length ≤ l.length + 1 ∧ ∀ h ∈ hGo a b i k l, h.old.length ≤ a.length ∧ h.new.length ≤ b.length
 | [], i, k => by
   unfold hGo
   split
   · refine ⟨by simp, fun h hh => ?_⟩
     obtain rfl := List.mem_singleton.1 hh
     dsimp only
     rw [List.length_drop, List.length_drop]; omega
   · exact ⟨by simp, fun h hh => by cases hh⟩
 | m :: l, i, k => by
   obtain ⟨h1, h2⟩ := hGo_len a b l (m.a + m.len) (m.b + m.len)
   unfold hGo
   split
   · refine ⟨by simp; omega, fun h hh => ?_⟩
     rcases List.mem_append.1 hh with hh | hh
     · obtain rfl := List.mem_singleton.1 hh
       dsimp only
       rw [List.length_drop, List.length_drop, List.length_take, List.length_take]; omega
     · exact h2 h hh
   · rw [List.nil_append]
     exact ⟨by simp; omega, h2⟩
theorem hunksR_fits {old new : Gr} (ho : GrOk old) (hn : GrOk new) : (hunksR old new).1.length ≤ 1000001 ∧ ∀ h ∈ (hunksR old new).1, HFits h := by
 obtain ⟨a1, a2, a3⟩ := seq_facts ho
 obtain ⟨b1, b2, b3⟩ := seq_facts hn
 unfold hunksR
 split
 · exact ⟨by simp, fun h hh => by cases hh⟩
 split
 · exact ⟨by simp, fun h hh => by cases hh⟩
 split
 · exact ⟨by simp, fun h hh => by cases hh⟩
 split
 · exact ⟨by simp, fun h hh => by cases hh⟩
 · rename_i l hl
   have h1 := mGo_len _ _ _ _ hl
   rw [List.length_range', List.length_nil, Nat.zero_add] at h1
   obtain ⟨h2, h3⟩ := hGo_len (txtL old.lines (seqL old.reach old.living)) (txtL new.lines (seqL new.reach new.living)) l 0 0
   refine ⟨by dsimp only; omega, fun h hh => ?_⟩
   obtain ⟨k1, k2⟩ := h3 h hh
   rw [txtL_len] at k1 k2
   exact ⟨by omega, by omega⟩
theorem small_of_big {g : Gr} (hb : g.big = false) : g.lines.length ≤ 16 := by
 unfold Gr.big at hb
 rw [Bool.or_eq_false_iff, Bool.or_eq_false_iff, decide_eq_false_iff_not, decide_eq_false_iff_not] at hb
 omega
theorem seq_small {g : Gr} (hb : g.big = false) : (seqL g.reach g.living).length ≤ 16 := by
 rw [(seqL_perm g.lv).length_eq]
 have := g.living_len
 have := small_of_big hb
 omega
theorem hunksR_small {old new : Gr} (ho : GrOk old) (hn : GrOk new) (hb : old.big = false) : (hunksR old new).1.length ≤ 1000000 := by
 have h0 := seq_small hb
 unfold hunksR
 split
 · exact Nat.zero_le _
 split
 · exact Nat.zero_le _
 split
 · exact Nat.zero_le _
 split
 · exact Nat.zero_le _
 · rename_i l hl
   have h1 := mGo_len _ _ _ _ hl
   rw [List.length_range', List.length_nil, Nat.zero_add] at h1
   have h2 := (hGo_len (txtL old.lines (seqL old.reach old.living)) (txtL new.lines (seqL new.reach new.living)) l 0 0).1
   dsimp only; omega
theorem tregs_fit {g : Gr} (hg : GrOk g) : ((regionsL g.reach g.living).map (treg g.lines)).length ≤ 1000000 ∧ ∀ r ∈ (regionsL g.reach g.living).map (treg g.lines), TFits r := by
 obtain ⟨h1, h2⟩ := reg_bounds g
 have hf := hg.few
 refine ⟨by rw [List.length_map]; omega, fun r hr => ?_⟩
 obtain ⟨x, hx, rfl⟩ := List.mem_map.1 hr
 obtain ⟨k1, k2, k3⟩ := h2 x hx
 refine ⟨by unfold treg; rw [txtL_len]; omega, by unfold treg; rw [List.length_map]; omega, fun s hs => ?_⟩
 unfold treg at hs
 obtain ⟨y, hy, rfl⟩ := List.mem_map.1 hs
 rw [txtL_len]
 have := k3 y hy
 omega
theorem refText_go {g : Gr} (hg : GrOk g) : AFn Tryz.prog 24 [dGraph g] (dTRegs ((regionsL g.reach g.living).map (treg g.lines))) := by
 obtain ⟨h1, h2⟩ := reg_bounds g
 have hf := hg.few
 have hp := seqL_perm g.lv
 refine (refText_fn hg (by omega) fun r hr => ?_)
 have hsub : ∀ i ∈ r.all, i ∈ seqL g.reach g.living := fun i hi => by unfold seqL; exact List.mem_flatMap.2 ⟨r, hr, hi⟩
 have hlen : r.all.length ≤ (seqL g.reach g.living).length := by unfold seqL; exact len_flatMap_mem Reg.all _ r hr
 obtain ⟨s1, s2, _⟩ := seq_facts hg
 exact ⟨fun i hi => s1 i (hsub i hi), by omega, by have := (h2 r hr).2.1; omega⟩
set_option maxRecDepth 10000 in
set_option maxHeartbeats 1000000 in
theorem textLaw_fn (hT : ∀ g : Gr, GrOk g → AFn Tryz.prog 23 [dGraph g] (dTRegs ((regionsL g.reach g.living).map (treg g.lines)))) {old new : Gr} (ho : GrAny old) (hn : GrAny new) : AFn Tryz.prog 5 [dGraph old, dGraph new] (dBool true) := by
 have hg := great_fn [old, new] (fun g hg => by
   rcases List.mem_cons.1 hg with rfl | hg
   · exact ho.in0
   · obtain rfl := List.mem_singleton.1 hg; exact hn.in0) (by simp)
 have h22 : 2 ≤ 2 := Nat.le_refl _
 have h24 : 2 ≤ 4 := by decide
 refine AFn_of (F := k_LinearizeText) (okb_LinearizeText.trans (by kernel_rfl)) (by simp [k_LinearizeText]) ?_
 simp only [k_LinearizeText, dGraph]
 rw [wpK_seq]
 generalize hQ1 : SeqQ _ _ = Q1
 simp only [h22, h24, Nat.reduceMul, Nat.le_refl, ↓Both_true, ↓Both_false, wx, reduceCtorEq, reduceIte, Nat.reduceAdd, Nat.reduceEqDiff, Nat.reduceLT, Nat.reduceLeDiff]
 subst hQ1
 simp only [SeqQ]
 rw [wpK_seq]
 generalize hQ2 : SeqQ _ _ = Q2
 rw [wpK_seq]
 generalize hQ3 : SeqQ _ _ = Q3
 simp only [h22, h24, Nat.reduceMul, Nat.le_refl, ↓Both_true, ↓Both_false, wx, reduceCtorEq, reduceIte, Nat.reduceAdd, Nat.reduceEqDiff, Nat.reduceLT, Nat.reduceLeDiff]
 refine CallM.data hg rfl ?_
 simp only [h22, h24, Nat.reduceMul, Nat.le_refl, ↓Both_true, ↓Both_false, wx, reduceCtorEq, reduceIte, Nat.reduceAdd, Nat.reduceEqDiff, Nat.reduceLT, Nat.reduceLeDiff]
 subst hQ3
 simp only [SeqQ]
 cases hb : [old, new].any Gr.big with
 | true =>
   simp only [h22, h24, Nat.reduceMul, Nat.le_refl, dBool, ↓Both_true, ↓Both_false, wx, reduceCtorEq, reduceIte, Nat.reduceAdd, Nat.reduceEqDiff, Nat.reduceLT, Nat.reduceLeDiff]
   refine CallM.data awake_fn rfl ?_
   simp only [h22, h24, Nat.reduceMul, Nat.le_refl, dBool, ↓Both_true, ↓Both_false, wx, reduceCtorEq, reduceIte, Nat.reduceAdd, Nat.reduceEqDiff, Nat.reduceLT, Nat.reduceLeDiff]
   subst hQ2
   simp only [dBool, deepD, AV.toL, ↓Both_true, ↓Both_false, wx, reduceCtorEq, reduceIte, Nat.reduceAdd, Nat.reduceEqDiff, Nat.reduceLT, Nat.reduceLeDiff]
 | false =>
   rw [List.any_cons, List.any_cons, List.any_nil, Bool.or_false, Bool.or_eq_false_iff] at hb
   have o1 := ho.ok hb.1
   have n1 := hn.ok hb.2
   have hh1 := linHunks_fn o1 n1
   have hh2 := refHunks_fn o1 n1
   have ht1 := hT old o1
   have ht2 := refText_go o1
   obtain ⟨f1, f2⟩ := tregs_fit o1
   have hs1 := (refSame22_fn _ f1 f2)
   have hs2 := (refSame08_fn (hunksR old new).1 (hunksR_small o1 n1 hb.1) (hunksR_fits o1 n1).2)
   have he : ((hunksR old new).2 == (hunksR old new).2) = true := by simp
   simp only [dBool, ↓Both_true, ↓Both_false, wx, reduceCtorEq, reduceIte, Nat.reduceAdd, Nat.reduceEqDiff, Nat.reduceLT, Nat.reduceLeDiff]
   subst hQ2
   simp only [SeqQ]
   rw [wpK_seq]
   generalize hQ4 : SeqQ _ _ = Q4
   simp only [h22, ↓Both_true, ↓Both_false, wx, reduceCtorEq, reduceIte, Nat.reduceAdd, Nat.reduceEqDiff, Nat.reduceLT, Nat.reduceLeDiff]
   refine CallM.data hh1 rfl ?_
   simp only [↓Both_true, ↓Both_false, wx, reduceCtorEq, reduceIte, Nat.reduceAdd, Nat.reduceEqDiff, Nat.reduceLT, Nat.reduceLeDiff]
   subst hQ4
   simp only [SeqQ]
   rw [wpK_seq]
   generalize hQ5 : SeqQ _ _ = Q5
   simp only [h22, ↓Both_true, ↓Both_false, wx, reduceCtorEq, reduceIte, Nat.reduceAdd, Nat.reduceEqDiff, Nat.reduceLT, Nat.reduceLeDiff]
   refine CallM.data hh2 rfl ?_
   simp only [↓Both_true, ↓Both_false, wx, reduceCtorEq, reduceIte, Nat.reduceAdd, Nat.reduceEqDiff, Nat.reduceLT, Nat.reduceLeDiff]
   subst hQ5
   simp only [SeqQ]
   rw [wpK_seq]
   generalize hQ6 : SeqQ _ _ = Q6
   rw [wpK_ops]
   refine (fun (h : ∀ tl, tl = _ → wpC _ (_ :: _ :: tl) _ _ _ _) => h _ rfl) (fun tl htl => ?_)
   simp only [h22, ↓Both_true, ↓Both_false, wx, reduceCtorEq, reduceIte, Nat.reduceAdd, Nat.reduceEqDiff, Nat.reduceLT, Nat.reduceLeDiff]
   refine CallM.data ht1 rfl ?_
   rw [CallQ_eq]
   subst htl
   refine (fun (h : ∀ tl, tl = _ → wpC _ (_ :: _ :: tl) _ _ _ _) => h _ rfl) (fun tl htl => ?_)
   simp only [h22, ↓Both_true, ↓Both_false, wx, reduceCtorEq, reduceIte, Nat.reduceAdd, Nat.reduceEqDiff, Nat.reduceLT, Nat.reduceLeDiff]
   refine CallM.data ht2 rfl ?_
   rw [CallQ_eq]
   subst htl
   refine (fun (h : ∀ tl, tl = _ → wpC _ (_ :: tl) _ _ _ _) => h _ rfl) (fun tl htl => ?_)
   simp only [h22, ↓Both_true, ↓Both_false, wx, reduceCtorEq, reduceIte, Nat.reduceAdd, Nat.reduceEqDiff, Nat.reduceLT, Nat.reduceLeDiff]
   refine CallM.data hs1 rfl ?_
   rw [CallQ_eq]
   subst htl
   simp only [h22, dBool, ↓Both_true, ↓Both_false, wx, reduceCtorEq, reduceIte, Nat.reduceAdd, Nat.reduceEqDiff, Nat.reduceLT, Nat.reduceLeDiff]
   refine CallM.data hs2 rfl ?_
   simp only [h22, he, dBool, ↓Both_true, ↓Both_false, wx, reduceCtorEq, reduceIte, Nat.reduceAdd, Nat.reduceEqDiff, Nat.reduceLT, Nat.reduceLeDiff]
   refine CallM.data awake_fn rfl ?_
   simp only [h22, he, dBool, ↓Both_true, ↓Both_false, wx, reduceCtorEq, reduceIte, Nat.reduceAdd, Nat.reduceEqDiff, Nat.reduceLT, Nat.reduceLeDiff]
   subst hQ6
   simp only [deepD, AV.toL, dBool, ↓Both_true, ↓Both_false, wx, reduceCtorEq, reduceIte, Nat.reduceAdd, Nat.reduceEqDiff, Nat.reduceLT, Nat.reduceLeDiff]
   exact (ordF_coarse (by simp only [List.map_cons, List.map_nil, coarse_rd, coarse_wr]; rfl))
end Go.Proofs.Lh
