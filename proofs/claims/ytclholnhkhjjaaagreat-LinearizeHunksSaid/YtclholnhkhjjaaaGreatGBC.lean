/-
  Part GBC of this claim's proof. Joined by merge.py from the texts of wip/tpl.
-/
import Derived.Test.YtclholnhkhjjaaaGreatGBB
import Derived.Test.YtclholnhkhjjaaaGreatGAT
import Derived.Test.YtclholnhkhjjaaaGreatGAX
set_option linter.unusedVariables false
set_option linter.unusedSimpArgs false
set_option linter.unnecessarySimpa false
namespace Go.Proofs.Lh
open Go Go.Bb Go.RowKit Go.Proofs.Lg
def dGraphV (g : Gr) : List Go.Ab.D := [dLines g.lines, dEdges g.edges]
theorem Great_fn {g : Gr} (hok : ∀ x ∈ g.lines, x.ok) (h1 : g.lines.length ≤ 9223372036854775807) (h2 : g.edges.length ≤ 9223372036854775807) : AFn Tryz.prog 35 [dGraph g] (dBool g.big) := by
 refine AFn_of (F := k_Great) (okb_Great.trans (by kernel_rfl)) (by simp [k_Great]) ?_
 simp only [k_Great, dGraph, dLines, ↓Both_true, ↓Both_false, wx, reduceCtorEq, reduceIte, Nat.reduceAdd, Nat.reduceEqDiff, Nat.reduceLT, Nat.reduceLeDiff]
 refine LoopK.count (fun k => [(3, .d (.sc (.int .i64 k))), (1, .ptr 0 0)]) (fun _ => [.cells [.d (.sl 35 (g.lines.map vrow)), .d (dEdges g.edges)]]) (fun k => (g.lines.take k).any (fun x => decide (40 < x.text.size)) = false) g.lines.length (by simp [SubB, Go.Bb.look]) rfl rfl fun k hk hi => ?_
 by_cases hlt : k < g.lines.length
 · have f1 : decide ((k : Int) < (g.lines.length : Int)) = true := by simpa using hlt
   have f2 : g.lines[k]? = some g.lines[k] := List.getElem?_eq_getElem hlt
   have f3 : IntKind.i64.wrap ((k : Int) + 1) = ((k + 1 : Nat) : Int) := wrapN (by omega) (by omega)
   have hx := hok g.lines[k] (List.getElem_mem _)
   have h8 : decide (40 < g.lines[k].text.size) = false → (g.lines.take (k + 1)).any (fun x => decide (40 < x.text.size)) = false := fun h => any_take_step' hi hlt h
   have h9 : decide (40 < g.lines[k].text.size) = true → g.big = true := fun h => by
     have : g.lines.any (fun x => decide (40 < x.text.size)) = true := any_hit' hlt h
     unfold Gr.big; rw [this]; rfl
   generalize g.lines[k] = x at f2 hx h8 h9
   have h5 := vrow_33 hx
   have h6 : decide ((x.text.size : Int) > 40) = decide (40 < x.text.size) := by by_cases h : 40 < x.text.size <;> simp [h] <;> omega
   cases hc : decide (40 < x.text.size) with
   | true =>
     simp only [f1, f2, h5, h6, hc, h9 hc, dBool, deepD, AV.toL, ↓Both_true, ↓Both_false, wx, reduceCtorEq, reduceIte, Nat.reduceAdd, Nat.reduceEqDiff, Nat.reduceLT, Nat.reduceLeDiff, wj, ← List.map_take, ← List.map_drop]
   | false =>
     simp only [f1, f2, f3, h5, h6, hc, hlt, h8 hc, dBool, deepD, AV.toL, ↓Both_true, ↓Both_false, wx, reduceCtorEq, reduceIte, Nat.reduceAdd, Nat.reduceEqDiff, Nat.reduceLT, Nat.reduceLeDiff, wj, ← List.map_take, ← List.map_drop]
 · have f1 : decide ((k : Int) < (g.lines.length : Int)) = false := by simpa using hlt
   have h2 : g.lines.take k = g.lines := List.take_of_length_le (by omega)
   rw [h2] at hi
   have hb : g.big = (decide (16 < g.lines.length) || decide (60 < g.edges.length)) := by unfold Gr.big; rw [hi]; rfl
   have h6 : decide ((g.lines.length : Int) > 16) = decide (16 < g.lines.length) := by by_cases h : 16 < g.lines.length <;> simp [h] <;> omega
   have h7 : decide ((g.edges.length : Int) > 60) = decide (60 < g.edges.length) := by by_cases h : 60 < g.edges.length <;> simp [h] <;> omega
   rw [hb]
   cases hc : decide (16 < g.lines.length) with
   | true => simp only [f1, h6, hc, dBool, dEdges, deepD, AV.toL, ↓Both_true, ↓Both_false, wx, reduceCtorEq, reduceIte, Nat.reduceAdd, Nat.reduceEqDiff, Nat.reduceLT, Nat.reduceLeDiff, wj, ← List.map_take, ← List.map_drop]
   | false => simp only [f1, h6, h7, hc, dBool, dEdges, deepD, AV.toL, ↓Both_true, ↓Both_false, wx, reduceCtorEq, reduceIte, Nat.reduceAdd, Nat.reduceEqDiff, Nat.reduceLT, Nat.reduceLeDiff, wj, ← List.map_take, ← List.map_drop]
def GrIn0 (g : Gr) : Prop := (∀ x ∈ g.lines, x.ok) ∧ g.lines.length ≤ 9223372036854775807 ∧ g.edges.length ≤ 9223372036854775807
theorem IndexFuncGraph_fn (gs : List Gr) (hok : ∀ g ∈ gs, GrIn0 g) (hn : gs.length ≤ 1000000) (s : List AObj) :
   FnK Tryz.prog 68 [.d (.sl 2 (gs.map dGraphV)), .clo 35 [] []] s fun d s' => d = .d (.sc (.int .i64 (idxI Gr.big gs))) ∧ s' = s := by
 refine FnK.of (F := k_IndexFuncGraph) (okb_IndexFuncGraph.trans (by kernel_rfl)) (by simp [k_IndexFuncGraph]) ?_
 simp only [k_IndexFuncGraph, ↓Both_true, ↓Both_false, wx, reduceCtorEq, reduceIte, Nat.reduceAdd, Nat.reduceEqDiff, Nat.reduceLT, Nat.reduceLeDiff, wj, ← List.map_take, ← List.map_drop]
 refine LoopK.count (fun k => [(8, .d (.sc (.int .i64 k))), (7, .d (.sc (.int .i64 gs.length))), (0, .d (.sl 2 (gs.map dGraphV))), (1, .clo 35 [] [])]) (fun _ => s) (fun k => (gs.take k).any Gr.big = false) gs.length (by simp [SubB, Go.Bb.look, intD]) rfl rfl fun k hk hi => ?_
 by_cases hlt : k < gs.length
 · have h1 : decide ((k : Int) < (gs.length : Int)) = true := by simpa using hlt
   have h2 : gs[k]? = some gs[k] := List.getElem?_eq_getElem hlt
   have h3 : IntKind.i64.wrap ((k : Int) + 1) = ((k + 1 : Nat) : Int) := wrapN (by omega) (by omega)
   obtain ⟨k1, k2, k3⟩ := hok gs[k] (List.getElem_mem _)
   have h5 := Great_fn k1 k2 k3
   have h8 : gs[k].big = false → (gs.take (k + 1)).any Gr.big = false := fun h => any_take_step' hi hlt h
   have h9 : gs[k].big = true → idxI Gr.big gs = k := fun h => idxI_hit hlt hi h
   clear k1 k2 k3
   generalize gs[k] = r at h2 h5 h8 h9
   have h6 : (dGraphV r).length = 2 := rfl
   have h7 : 2 ≤ 2 := Nat.le_refl _
   simp only [h1, h2, h3, h6, h7, hlt, ↓Both_true, ↓Both_false, wx, reduceCtorEq, reduceIte, Nat.reduceAdd, Nat.reduceEqDiff, Nat.reduceLT, Nat.reduceLeDiff, wj, ← List.map_take, ← List.map_drop]
   refine CallM.data h5 rfl ?_
   cases hc : r.big with
   | true => simp only [h1, h2, h3, h6, h7, hlt, h9 hc, dBool, ↓Both_true, ↓Both_false, wx, reduceCtorEq, reduceIte, Nat.reduceAdd, Nat.reduceEqDiff, Nat.reduceLT, Nat.reduceLeDiff, wj, ← List.map_take, ← List.map_drop]
   | false => simp only [h1, h2, h3, h6, h7, hlt, h8 hc, dBool, ↓Both_true, ↓Both_false, wx, reduceCtorEq, reduceIte, Nat.reduceAdd, Nat.reduceEqDiff, Nat.reduceLT, Nat.reduceLeDiff, wj, ← List.map_take, ← List.map_drop]
 · have h1 : decide ((k : Int) < (gs.length : Int)) = false := by simpa using hlt
   have h2 : gs.take k = gs := List.take_of_length_le (by omega)
   rw [h2] at hi
   simp only [h1, idxI_none hi, ↓Both_true, ↓Both_false, wx, reduceCtorEq, reduceIte, Nat.reduceAdd, Nat.reduceEqDiff, Nat.reduceLT, Nat.reduceLeDiff, wj, ← List.map_take, ← List.map_drop]
theorem ContainsFuncGraph_fn (gs : List Gr) (hok : ∀ g ∈ gs, GrIn0 g) (hn : gs.length ≤ 1000000) (s : List AObj) : FnK Tryz.prog 34 [.d (.sl 2 (gs.map dGraphV)), .clo 35 [] []] s fun d s' => d = .d (dBool (gs.any Gr.big)) ∧ s' = s := by
 refine FnK.of (F := k_ContainsFuncGraph) (okb_ContainsFuncGraph.trans (by kernel_rfl)) (by simp [k_ContainsFuncGraph]) ?_
 have h1 := idxI_ge Gr.big gs
 simp only [k_ContainsFuncGraph, ↓Both_true, ↓Both_false, wx, reduceCtorEq, reduceIte, Nat.reduceAdd, Nat.reduceEqDiff, Nat.reduceLT, Nat.reduceLeDiff, wj, ← List.map_take, ← List.map_drop]
 refine CallM.fn ?_
 refine (IndexFuncGraph_fn gs hok hn s).mono ?_
 rintro d s' ⟨rfl, rfl⟩
 simp only [h1, dBool, ↓Both_true, ↓Both_false, wx, reduceCtorEq, reduceIte, Nat.reduceAdd, Nat.reduceEqDiff, Nat.reduceLT, Nat.reduceLeDiff, wj, ← List.map_take, ← List.map_drop]
theorem great_fn (gs : List Gr) (hok : ∀ g ∈ gs, GrIn0 g) (hn : gs.length ≤ 1000000) : AFn Tryz.prog 7 [.sl 2 (gs.map dGraphV)] (dBool (gs.any Gr.big)) := by
 refine AFn_of (F := k_great) (okb_great.trans (by kernel_rfl)) (by simp [k_great]) ?_
 simp only [k_great, ↓Both_true, ↓Both_false, wx, reduceCtorEq, reduceIte, Nat.reduceAdd, Nat.reduceEqDiff, Nat.reduceLT, Nat.reduceLeDiff, wj, ← List.map_take, ← List.map_drop]
 refine CallM.fn ?_
 refine (ContainsFuncGraph_fn gs hok hn []).mono ?_
 rintro d s' ⟨rfl, rfl⟩
 simp only [dBool, deepD, AV.toL, ↓Both_true, ↓Both_false, wx, reduceCtorEq, reduceIte, Nat.reduceAdd, Nat.reduceEqDiff, Nat.reduceLT, Nat.reduceLeDiff, wj, ← List.map_take, ← List.map_drop]
theorem awake_fn : AFn Tryz.prog 8 [] (dBool true) := by
 refine ⟨enters_fn Tryz.func8 rfl (by rfl), fun I w vs hl hv => ?_⟩
 obtain rfl : vs = [] := List.eq_nil_of_length_eq_zero hl
 exact (awake_any w).mono fun e w' ⟨he, hb⟩ => ⟨_, he, .sc _, hb⟩
end Go.Proofs.Lh

namespace Go.Proofs.Lh
open Go Go.Bb Go.RowKit Go.Proofs.Lg
structure GrAny (g : Gr) : Prop where
 okl : ∀ x ∈ g.lines, x.ok
 oke : ∀ e ∈ g.edges, I64 e.1 ∧ I64 e.2
 len : g.lines.length ≤ 9223372036854775807
 elen : g.edges.length ≤ 9223372036854775807
theorem GrAny.in0 {g : Gr} (h : GrAny g) : GrIn0 g := ⟨h.okl, h.len, h.elen⟩
theorem GrAny.ok {g : Gr} (h : GrAny g) (hb : g.big = false) : GrOk g := by
 unfold Gr.big at hb
 rw [Bool.or_eq_false_iff, Bool.or_eq_false_iff, decide_eq_false_iff_not, decide_eq_false_iff_not] at hb
 exact ⟨h.okl, h.oke, by omega, by omega⟩
theorem hGo_len (a b : List ByteArray) : ∀ (l : List Mt) (i k : Nat), (hGo a b i k l).length ≤ l.length + 1 ∧ ∀ h ∈ hGo a b i k l, h.old.length ≤ a.length ∧ h.new.length ≤ b.length
 | [], i, k => by
   unfold hGo
   split
   · refine ⟨by simp, fun h hh => ?_⟩
     obtain rfl := List.mem_singleton.1 hh
     dsimp only
     rw [List.length_drop, List.length_drop]; omega
   · exact ⟨by simp, fun h hh => by cases hh⟩
 | m :: l, i, k => by
   obtain ⟨h1, h2⟩ := hGo_len a b l (m.a + m.len) (m.b + m.len)
   unfold hGo
   split
   · refine ⟨by simp; omega, fun h hh => ?_⟩
     rcases List.mem_append.1 hh with hh | hh
     · obtain rfl := List.mem_singleton.1 hh
       dsimp only
       rw [List.length_drop, List.length_drop, List.length_take, List.length_take]; omega
     · exact h2 h hh
   · rw [List.nil_append]
     exact ⟨by simp; omega, h2⟩
theorem small_of_big {g : Gr} (hb : g.big = false) : g.lines.length ≤ 16 := by
 unfold Gr.big at hb
 rw [Bool.or_eq_false_iff, Bool.or_eq_false_iff, decide_eq_false_iff_not, decide_eq_false_iff_not] at hb
 omega
theorem seq_small {g : Gr} (hb : g.big = false) : (seqL g.reach g.living).length ≤ 16 := by
 rw [(seqL_perm g.lv).length_eq]
 have := g.living_len
 have := small_of_big hb
 omega
end Go.Proofs.Lh

namespace Go.Proofs.Lh
open Go Go.Bb Go.RowKit Go.Proofs.Lg
def validB (g : Gr) : Bool := !g.big && g.check == 0
theorem validLaw_fn {g : Gr} (hg : GrAny g) : AFn Tryz.prog 17 [dGraph g] (dBool (validB g)) := by
 have hgr := great_fn [g] (fun g' h => by obtain rfl := List.mem_singleton.1 h; exact hg.in0) (by simp)
 have h22 : 2 ≤ 2 := Nat.le_refl _
 have h24 : roomOk 1 24 = true := by decide
 refine AFn_of (F := k_validLaw) (okb_validLaw.trans (by kernel_rfl)) (by simp [k_validLaw]) ?_
 simp only [k_validLaw, dGraph, h22, Nat.reduceMul, Nat.le_refl, ↓Both_true, ↓Both_false, wx, reduceCtorEq, reduceIte, Nat.reduceAdd, Nat.reduceEqDiff, Nat.reduceLT, Nat.reduceLeDiff]
 refine CallM.data hgr rfl ?_
 have hany : [g].any Gr.big = g.big := by simp
 rw [hany]
 unfold validB
 cases hb : g.big with
 | true => simp only [h22, Nat.reduceMul, Nat.le_refl, dBool, deepD, AV.toL, ↓Both_true, ↓Both_false, wx, reduceCtorEq, reduceIte, Nat.reduceAdd, Nat.reduceEqDiff, Nat.reduceLT, Nat.reduceLeDiff]
 | false =>
   simp only [h22, Nat.reduceMul, Nat.le_refl, dBool, ↓Both_true, ↓Both_false, wx, reduceCtorEq, reduceIte, Nat.reduceAdd, Nat.reduceEqDiff, Nat.reduceLT, Nat.reduceLeDiff]
   refine CallM.data (refCheck_fn (hg.ok hb)) rfl ?_
   simp only [h22, Nat.reduceMul, Nat.le_refl, dBool, deepD, AV.toL, ↓Both_true, ↓Both_false, wx, reduceCtorEq, reduceIte, Nat.reduceAdd, Nat.reduceEqDiff, Nat.reduceLT, Nat.reduceLeDiff]
def hitB (ys : List Vtx) (x : Vtx) : Bool := match ys.findIdx? (sameId x) with
 | some k => (ys[k]?).any fun y => x.text.toList == y.text.toList
 | none => false
theorem hit_iff {old new : Gr} {a b : List Nat} (hn : linesOk new.lines = true) (hbn : b.Nodup) (hb : ∀ q ∈ b, q < new.lines.length) {i p : Nat} {x : Vtx} (h1 : a[i]? = some p) (h2 : old.lines[p]? = some x) :
   (fM old new a b i).isSome = hitB (b.map (vtx new.lines)) x := by
 unfold hitB
 cases hf : (b.map (vtx new.lines)).findIdx? (sameId x) with
 | none =>
   cases hm : fM old new a b i with
   | none => rfl
   | some k =>
     exfalso
     obtain ⟨p', q, x', y, e1, e2, e3, e4, hs⟩ := fM_spec hm
     rw [h1] at e1; obtain rfl := Option.some.inj e1
     rw [h2] at e3; obtain rfl := Option.some.inj e3
     have hmem : vtx new.lines q ∈ b.map (vtx new.lines) := List.mem_map.2 ⟨q, List.mem_of_getElem? e2, rfl⟩
     have := List.findIdx?_eq_none_iff.1 hf _ hmem
     rw [vtx_get e4] at this
     unfold sameId at this
     rw [hs.1, hs.2.1] at this
     simp at this
 | some k =>
   obtain ⟨hk, h3, _⟩ := List.findIdx?_eq_some_iff_getElem.1 hf
   have hkb : k < b.length := by simpa using hk
   have e2 : b[k]? = some b[k] := List.getElem?_eq_getElem hkb
   have hq := hb b[k] (List.getElem_mem _)
   have e4 : new.lines[b[k]]? = some new.lines[b[k]] := List.getElem?_eq_getElem hq
   have hy : (b.map (vtx new.lines))[k]? = some new.lines[b[k]] := by rw [List.getElem?_map, e2, Option.map_some, vtx_get e4]
   rw [List.getElem_map, vtx_get e4] at h3
   dsimp only
   rw [hy, Option.any_some]
   generalize new.lines[b[k]] = y at *
   unfold sameId at h3
   simp at h3
   have hfm := fM_iff (old := old) hn hbn h1 e2 h2 e4
   by_cases ht : x.text = y.text
   · rw [hfm.2 ⟨h3.1, h3.2, ht⟩, ht]; simp
   · rw [str_ne ht]
     cases hm : fM old new a b i with
     | none => rfl
     | some k' =>
       exfalso
       obtain ⟨p', q', x', y', g1, g2, g3, g4, hs⟩ := fM_spec hm
       rw [h1] at g1; obtain rfl := Option.some.inj g1
       rw [h2] at g3; obtain rfl := Option.some.inj g3
       have hqq : b[k] = q' := ids_inj hn e4 g4 (h3.1.symm.trans hs.1) (h3.2.symm.trans hs.2.1)
       rw [hqq, g4] at e4
       obtain rfl := Option.some.inj e4
       exact ht hs.2.2
theorem hits_succ (f : Nat → Option Nat) (k : Nat) : hits f (List.range' 0 (k + 1)) = hits f (List.range' 0 k) + if (f k).isSome then 1 else 0 := by
 unfold hits
 rw [List.range'_concat, List.countP_append]
 simp [List.countP_cons]
theorem hits_le (f : Nat → Option Nat) {k n : Nat} (h : k ≤ n) : hits f (List.range' 0 k) ≤ hits f (List.range' 0 n) := by
 induction n with
 | zero => obtain rfl : k = 0 := by omega
           exact Nat.le_refl _
 | succ n ih =>
   rcases Nat.lt_or_ge k (n + 1) with h1 | h1
   · rw [hits_succ]; have := ih (by omega); omega
   · obtain rfl : k = n + 1 := by omega
     exact Nat.le_refl _
theorem kGo_len (n : Nat) : ∀ (l : List Hk) (a b : Nat), (kGo n a b l).length ≤ l.length + 1
 | [], a, b => by rw [kGo]; have := kSeg_len a b n; simp; omega
 | h :: l, a, b => by
   rw [kGo, List.length_append, List.length_cons]
   have := kSeg_len a b h.pos
   have := kGo_len n l (h.pos + h.old.length) (b + (h.pos - a) + h.new.length)
   omega
theorem txtL_vtx {ls : List Vtx} {a : List Nat} (ha : ∀ q ∈ a, q < ls.length) {i : Nat} {x : Vtx} (h : (a.map (vtx ls))[i]? = some x) : ∃ p, a[i]? = some p ∧ ls[p]? = some x ∧ (txtL ls a)[i]? = some x.text := by
 rw [List.getElem?_map] at h
 obtain ⟨p, hp, hx⟩ := Option.map_eq_some_iff.1 h
 have hq := ha p (List.mem_of_getElem? hp)
 have e : ls[p]? = some ls[p] := List.getElem?_eq_getElem hq
 rw [vtx_get e] at hx
 rw [hx] at e
 exact ⟨p, hp, e, txtL_get hp e⟩
structure LawF (old new : Gr) (xs ys : List Vtx) (A B : List ByteArray) (l : List Hk) (M : List Mt) (f : Nat → Option Nat) : Prop where
 s1 : ∃ a, AFn Tryz.prog 15 [dGraph old] (dNats a) ∧ AFn Tryz.prog 26 [dGraph old, dNats a] (.tup [dStrs A, .sl 33 (xs.map idR), .sc (.bool true)])
 s2 : ∃ b, AFn Tryz.prog 15 [dGraph new] (dNats b) ∧ AFn Tryz.prog 26 [dGraph new, dNats b] (.tup [dStrs B, .sl 33 (ys.map idR), .sc (.bool true)])
 ap : AFn Tryz.prog 27 [dStrs A, dHks l] (.tup [dStrs B, .sc (.int .i64 0)])
 ma : AFn Tryz.prog 28 [.sc (.int .i64 (A.length : Nat)), dHks l] (dMts M)
 al : A.length ≤ 16
 bl : B.length ≤ 16
 xl : xs.length = A.length
 yl : ys.length = B.length
 ml : M.length ≤ 1000000
 sum : lsum M = hits f (List.range' 0 A.length)
 xo : ∀ (i : Nat) (x : Vtx), xs[i]? = some x → x.ok ∧ A[i]? = some x.text ∧ (f i).isSome = hitB ys x
 yo : ∀ (k : Nat) (y : Vtx), ys[k]? = some y → y.ok ∧ B[k]? = some y.text
theorem lawF {old new : Gr} (o1 : GrOk old) (n1 : GrOk new) (hbo : old.big = false) (hbn : new.big = false) (hcn : new.check = 0) {m : List Mt}
   (hg : mGo (fM old new (seqL old.reach old.living) (seqL new.reach new.living)) (List.range' 0 (seqL old.reach old.living).length) (-1) [] = some m) :
   ∃ xs ys A B M f, LawF old new xs ys A B (hGo (txtL old.lines (seqL old.reach old.living)) (txtL new.lines (seqL new.reach new.living)) 0 0 m) M f := by
 obtain ⟨a1, a2, a3⟩ := seq_facts o1
 obtain ⟨b1, b2, b3⟩ := seq_facts n1
 have hs1 := linSequence_fn o1
 have hs2 := linSequence_fn n1
 have l1 := seq_small hbo
 have l2 := seq_small hbn
 have hln := linesOk_of_check hcn
 generalize seqL old.reach old.living = a at *
 generalize seqL new.reach new.living = b at *
 have hMF := fM_from hg
 have hml := mGo_len _ _ _ _ hg
 have hsum := mGo_sum _ _ _ _ hg
 rw [List.length_range', List.length_nil, Nat.zero_add] at hml
 have ht1 := lhTexts_fn o1 a1 a2
 have ht2 := lhTexts_fn n1 b1 b2
 have hal := txtL_len old.lines a
 have hbl := txtL_len new.lines b
 have hx := fun i x h => txtL_vtx (ls := old.lines) (a := a) a1 (i := i) (x := x) h
 have hy := fun i x h => txtL_vtx (ls := new.lines) (a := b) b1 (i := i) (x := x) h
 have hin := hGo_in m 0 0 true 0 true hMF (Nat.zero_le _) (Nat.le_refl _) (.inl rfl)
 have happ := hApp_hGo m 0 0 true 0 [] hMF (Nat.zero_le _) (Nat.zero_le _) (Nat.le_refl _) (by simp)
 obtain ⟨k1, k2⟩ := hGo_len (txtL old.lines a) (txtL new.lines b) m 0 0
 have hos := osum_hGo m 0 0 true hMF (Nat.zero_le _)
 have hks := lsum_kGo _ 0 0 true hin (Nat.zero_le _)
 have hap := hkApply_fn _ _ hin (by omega) (by omega) (fun h hh => by have := (k2 h hh).2; omega) (by rw [happ]; omega)
 rw [happ] at hap
 have hma := hkMatching_fn _ _ hin (by omega) (by omega) (fun h hh => by have := (k2 h hh).2; omega)
 have hkl := kGo_len (txtL old.lines a).length (hGo (txtL old.lines a) (txtL new.lines b) 0 0 m) 0 0
 have hz : lsum [] = 0 := rfl
 rw [hz, Nat.zero_add] at hsum
 refine ⟨a.map (vtx old.lines), b.map (vtx new.lines), txtL old.lines a, txtL new.lines b, _, fM old new a b, ⟨⟨a, hs1, ht1⟩, ⟨b, hs2, ht2⟩, hap, hma, by omega, by omega, by rw [List.length_map, hal], by rw [List.length_map, hbl], by omega, Eq.trans (b := hits (fM old new a b) (List.range' 0 a.length)) (by omega) (by rw [hal]), fun i x h => ?_, fun k y h => ?_⟩⟩
 · obtain ⟨p, e1, e2, e3⟩ := hx i x h
   exact ⟨o1.okl x (List.mem_of_getElem? e2), e3, hit_iff hln b3 b1 e1 e2⟩
 · obtain ⟨p, e1, e2, e3⟩ := hy k y h
   exact ⟨n1.okl y (List.mem_of_getElem? e2), e3⟩
end Go.Proofs.Lh
