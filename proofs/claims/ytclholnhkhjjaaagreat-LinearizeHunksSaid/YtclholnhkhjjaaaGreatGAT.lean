/-
  Part GAT of this claim's proof. Joined by merge.py from the texts of wip/tpl.
-/
import Derived.Test.YtclholnhkhjjaaaGreatGAS
import Derived.Test.YtclholnhkhjjaaaGreatGAK
import Derived.Test.YtclholnhkhjjaaaGreatGAQ
set_option linter.unusedVariables false
set_option linter.unusedSimpArgs false
set_option linter.unnecessarySimpa false
namespace Go.Proofs.Lh
open Go Go.Bb Go.RowKit Go.Proofs.Lg
theorem vrow_35 {v : Vtx} (h : v.ok) : (vrow v).length = 35 := by simp [vrow, Vtx.cells, h.1]
theorem vrow_33 {v : Vtx} (h : v.ok) : (vrow v).drop 33 = [.sc (.string v.text), .sc (.bool v.living)] := by
 have h2 : vrow v = (idVs v).map .sc ++ [.sc (.string v.text), .sc (.bool v.living)] := by simp [vrow, Vtx.cells, idVs]
 have h3 : ((idVs v).map Go.Ab.D.sc).length = 33 := by rw [List.length_map, idVs_len h]
 rw [h2, List.drop_append, h3, List.drop_eq_nil_of_le (by omega)]; rfl
def mtF (n : Nat) : AV := if n = 0 then .nil 3 else .vec 4 n 3
def mtS (A B M j : AObj) (out : List Mt) (J : List AObj) : List AObj := if out = [] then [A, B, M] else A :: B :: M :: j :: .vec 65 3 (mtA out) :: J
theorem mtF_nil : mtF 0 = .nil 3 := rfl
theorem mtF_succ (n : Nat) : mtF (n + 1) = .vec 4 (n + 1) 3 := rfl
theorem mtF_snoc (l : List Mt) (m : Mt) : mtF (l ++ [m]).length = .vec 4 (l.length + 1) 3 := by rw [List.length_append]; rfl
theorem mtS_nil (A B M j : AObj) (J : List AObj) : mtS A B M j [] J = [A, B, M] := if_pos rfl
theorem mtS_snoc (A B M j : AObj) (l : List Mt) (m : Mt) (J : List AObj) : mtS A B M j (l ++ [m]) J = A :: B :: M :: j :: .vec 65 3 (mtA (l ++ [m])) :: J := if_neg (by simp)
theorem fM_none {old new : Gr} {a b : List Nat} {i p : Nat} {x : Vtx} (h1 : a[i]? = some p) (h2 : old.lines[p]? = some x) (h : plF new.lines x b = none) : fM old new a b i = none := by
 cases hf : fM old new a b i with
 | none => rfl
 | some k =>
   obtain ⟨p', q, x', y, e1, e2, e3, e4, hs⟩ := fM_spec hf
   rw [h1] at e1; obtain rfl := Option.some.inj e1
   rw [h2] at e3; obtain rfl := Option.some.inj e3
   have := List.findIdx?_eq_none_iff.1 h q (List.mem_of_getElem? e2)
   rw [e4, Option.any_some, decide_eq_true hs.1, decide_eq_true hs.2.1] at this
   cases this
theorem plF_spec {new : Gr} {b : List Nat} {x : Vtx} {k : Nat} (h : plF new.lines x b = some k) : ∃ q y, b[k]? = some q ∧ new.lines[q]? = some y ∧ x.id = y.id ∧ x.n = y.n := by
 obtain ⟨hk, h3, _⟩ := List.findIdx?_eq_some_iff_getElem.1 h
 cases h4 : new.lines[b[k]]? with
 | none => rw [h4] at h3; cases h3
 | some y =>
   rw [h4, Option.any_some, Bool.and_eq_true, decide_eq_true_eq, decide_eq_true_eq] at h3
   exact ⟨b[k], y, List.getElem?_eq_getElem hk, h4, h3.1, h3.2⟩
theorem fM_diff {old new : Gr} {a b : List Nat} (hn : linesOk new.lines = true) {i p q : Nat} {x y : Vtx} (h1 : a[i]? = some p) (h2 : old.lines[p]? = some x) (h3 : new.lines[q]? = some y) (hid : x.id = y.id) (hnn : x.n = y.n) (ht : x.text ≠ y.text) : fM old new a b i = none := by
 cases hf : fM old new a b i with
 | none => rfl
 | some k =>
   obtain ⟨p', q', x', y', e1, e2, e3, e4, hs⟩ := fM_spec hf
   rw [h1] at e1; obtain rfl := Option.some.inj e1
   rw [h2] at e3; obtain rfl := Option.some.inj e3
   have hq : q = q' := ids_inj hn h3 e4 (hid.symm.trans hs.1) (hnn.symm.trans hs.2.1)
   subst hq
   rw [h3] at e4; obtain rfl := Option.some.inj e4
   exact absurd hs.2.2 ht
set_option maxRecDepth 10000 in
set_option maxHeartbeats 4000000 in
theorem linMatches_K {old new : Gr} (ho : GrOk old) (hn : GrOk new) {a b : List Nat} (ha : ∀ j ∈ a, j < old.lines.length) (hb : ∀ j ∈ b, j < new.lines.length) (hal : a.length ≤ 1000000) (hbl : b.length ≤ 1000000) (hbn : b.Nodup) (hln : linesOk new.lines = true) :
   FnK Tryz.prog 56 [.d (dGraph old), .d (dGraph new), .d (dNats a), .d (dNats b)] [] fun d s => deepD s 5 d = some (.tup [dMts ((mGo (fM old new a b) (List.range' 0 a.length) (-1) []).getD []), .sc (.bool (mGo (fM old new a b) (List.range' 0 a.length) (-1) []).isSome)]) ∧ (mGo (fM old new a b) (List.range' 0 a.length) (-1) [] = some [] → d = .tup [.nil 3, .d (.sc (.bool true))]) := by
 generalize hR : mGo (fM old new a b) (List.range' 0 a.length) (-1) [] = R
 refine FnK.of (F := k_linMatches) (okb_linMatches.trans (by kernel_rfl)) (by simp [k_linMatches]) ?_
 simp only [k_linMatches, dGraph, dNats, dMts, dLines, ↓Both_true, ↓Both_false, wx, reduceCtorEq, reduceIte, Nat.reduceAdd, Nat.reduceEqDiff, Nat.reduceLT, Nat.reduceLeDiff]
 refine LoopK.count (fun k => [(23, .d (.sc (.int .i64 k))), (22, .d (.sc (.int .i64 b.length))), (21, .d (.sl 1 (b.map nrow))), (10, .mp 2), (4, .ptr 0 0), (5, .ptr 1 0), (2, .d (.sl 1 (a.map nrow))), (3, .d (.sl 1 (b.map nrow)))])
   (fun k => [.cells [.d (.sl 35 (old.lines.map vrow)), .d (dEdges old.edges)], .cells [.d (.sl 35 (new.lines.map vrow)), .d (dEdges new.edges)], .map true (plE new.lines 0 (b.take k))]) (fun _ => True) b.length (by simp [SubB, Go.Bb.look, intD]) rfl trivial fun k hk _ => ?_
 by_cases hlt : k < b.length
 · have f1 : decide ((k : Int) < (b.length : Int)) = true := by simpa using hlt
   have f2 : b[k]? = some b[k] := List.getElem?_eq_getElem hlt
   have f3 : IntKind.i64.wrap ((k : Int) + 1) = ((k + 1 : Nat) : Int) := wrapN (by omega) (by omega)
   have hq := hb b[k] (List.getElem_mem _)
   have hsn := fun q (x : Vtx) (h : new.lines[q]? = some x) => plE_snoc new.lines (b.take k) 0 q x h
   have htk : b.take (k + 1) = b.take k ++ [b[k]] := List.take_succ_eq_append_getElem hlt
   have f4 : new.lines[b[k]]? = some new.lines[b[k]] := List.getElem?_eq_getElem hq
   have hxo := hn.okl new.lines[b[k]] (List.getElem_mem _)
   have hnone : plF new.lines new.lines[b[k]] (b.take k) = none := by
     unfold plF
     rw [List.findIdx?_eq_none_iff]
     intro q hqm
     have hqb : q < new.lines.length := hb q (List.mem_of_mem_take hqm)
     rw [List.getElem?_eq_getElem hqb, Option.any_some]
     rw [Bool.eq_false_iff]
     intro hc
     rw [Bool.and_eq_true, decide_eq_true_eq, decide_eq_true_eq] at hc
     have he : b[k] = q := ids_inj hln f4 (List.getElem?_eq_getElem hqb) hc.1 hc.2
     subst he
     obtain ⟨j, hj, hjk⟩ := List.mem_take_iff_getElem.1 hqm
     have := nd_get hbn (List.getElem?_eq_getElem (by omega)) (show b[k]? = some b[j] by rw [f2, hjk])
     omega
   have hfind := findE_plE hn.okl hxo (b.take k) 0 0 (fun q hqm => hb q (List.mem_of_mem_take hqm))
   rw [hnone] at hfind
   have hs2 := hsn _ _ f4
   rw [← htk] at hs2
   have hlen : (b.take k).length = k := by rw [List.length_take]; omega
   rw [hlen, Nat.zero_add] at hs2
   have hkey := key_id hxo
   have b0 := vrow_35 hxo
   generalize new.lines[b[k]] = x at f4 hxo hfind hkey b0 hs2
   generalize b[k] = q at f2 f4
   have b33 : 33 ≤ 35 := by decide
   unfold ks33 at hkey hfind
   simp only [f1, f2, f3, f4, b0, b33, hkey, hfind, hlt, nrow, List.append_nil, List.flatten_cons, List.flatten_nil, Nat.one_mul, ↓Both_true, ↓Both_false, wx, reduceCtorEq, reduceIte, Nat.reduceAdd, Nat.reduceEqDiff, Nat.reduceLT, Nat.reduceLeDiff, wj, ← List.map_take, ← List.map_drop]
   rw [hs2]
 · have f1 : decide ((k : Int) < (b.length : Int)) = false := by simpa using hlt
   have htk : b.take k = b := List.take_of_length_le (by omega)
   simp only [f1, htk, ↓Both_true, ↓Both_false, wx, reduceCtorEq, reduceIte, Nat.reduceAdd, Nat.reduceEqDiff, Nat.reduceLT, Nat.reduceLeDiff, wj, ← List.map_take, ← List.map_drop]
   refine LoopK.at (fun s : Nat × List Mt × Int × AObj × List AObj => [(39, .d (.sc (.int .i64 s.1))), (38, .d (.sc (.int .i64 a.length))), (37, .d (.sl 1 (a.map nrow))), (13, mtF s.2.1.length), (14, .d (.sc (.int .i64 s.2.2.1))), (10, .mp 2), (4, .ptr 0 0), (5, .ptr 1 0), (2, .d (.sl 1 (a.map nrow))), (3, .d (.sl 1 (b.map nrow)))])
     (fun s => mtS (.cells [.d (.sl 35 (old.lines.map vrow)), .d (dEdges old.edges)]) (.cells [.d (.sl 35 (new.lines.map vrow)), .d (dEdges new.edges)]) (.map true (plE new.lines 0 b)) s.2.2.2.1 s.2.1 s.2.2.2.2)
     (fun mm s => mm + s.1 = a.length ∧ s.2.1.length ≤ s.1 ∧ MtB s.1 s.2.1 ∧ mGo (fM old new a b) (List.range' s.1 mm) s.2.2.1 s.2.1 = R)
     a.length (0, [], -1, .row 0 0 0, []) (by simp [SubB, Go.Bb.look, intD, mtF]) rfl ⟨rfl, Nat.le_refl _, (fun m hm => by cases hm), hR⟩ ?_
   rintro mm ⟨i, out, last, j, J⟩ ⟨hm, hol, hmb, hrun⟩
   dsimp only at hm hol hmb hrun ⊢
   by_cases hlt : i < a.length
   · have f1 : decide ((i : Int) < (a.length : Int)) = true := by simpa using hlt
     have f2 : a[i]? = some a[i] := List.getElem?_eq_getElem hlt
     have f3 : IntKind.i64.wrap ((i : Int) + 1) = ((i + 1 : Nat) : Int) := wrapN (by omega) (by omega)
     have hp := ha a[i] (List.getElem_mem _)
     generalize a[i] = p at f2 hp
     have f4 : old.lines[p]? = some old.lines[p] := List.getElem?_eq_getElem hp
     have hxo := ho.okl old.lines[p] (List.getElem_mem _)
     generalize old.lines[p] = x at f4 hxo
     obtain ⟨mm, rfl⟩ : ∃ m', mm = m' + 1 := ⟨mm - 1, by omega⟩
     rw [List.range'_succ, mGo] at hrun
     have hfind := findE_plE hn.okl hxo b 0 0 hb
     have hkey := key_id hxo
     have b0 := vrow_35 hxo
     have b33 : 33 ≤ 35 := by decide
     have hx33 := vrow_33 hxo
     unfold ks33 at hkey hfind
     have hmo : i + 1 + mm = a.length := by omega
     cases hpl : plF new.lines x b with
     | none =>
       have hfi : fM old new a b i = none := fM_none f2 f4 hpl
       rw [hfi] at hrun
       dsimp only at hrun
       rw [hpl] at hfind
       rcases List.eq_nil_or_concat out with ho2 | ⟨l, m, ho2⟩
       · subst ho2
         simp only [mtF_nil, mtS_nil, f1, f2, f3, f4, b0, b33, hkey, hfind, nrow, List.append_nil, List.length_nil, List.flatten_cons, List.flatten_nil, Nat.one_mul, ↓Both_true, ↓Both_false, wx, reduceCtorEq, reduceIte, Nat.reduceAdd, Nat.reduceEqDiff, Nat.reduceLT, Nat.reduceLeDiff, wj, ← List.map_take, ← List.map_drop]
         exact ⟨rfl, mm, (i + 1, [], last, j, J), Nat.lt_succ_self _, ⟨rfl, rfl, rfl⟩, rfl, by dsimp only; omega, Nat.zero_le _, (fun m hm => by cases hm), hrun⟩
       · rw [List.concat_eq_append] at ho2
         subst ho2
         simp only [mtF_succ, mtS_snoc, f1, f2, f3, f4, b0, b33, hkey, hfind, nrow, List.append_nil, List.flatten_cons, List.flatten_nil, Nat.one_mul, ↓Both_true, ↓Both_false, wx, reduceCtorEq, reduceIte, Nat.reduceAdd, Nat.reduceEqDiff, Nat.reduceLT, Nat.reduceLeDiff, wj, ← List.map_take, ← List.map_drop]
         exact ⟨rfl, mm, (i + 1, l ++ [m], last, j, J), Nat.lt_succ_self _, ⟨rfl, by rw [mtF_snoc], rfl⟩, by rw [mtS_snoc], by dsimp only; omega, Nat.le_succ_of_le hol, hmb.mono (Nat.le_succ _), hrun⟩
     | some k =>
       obtain ⟨q, y, g1, g2, g3, g4⟩ := plF_spec hpl
       have hyo := hn.okl y (List.mem_of_getElem? g2)
       have hkb : k < b.length := (List.getElem?_eq_some_iff.1 g1).1
       have hy33 := vrow_33 hyo
       rw [hpl] at hfind
       by_cases htx : x.text = y.text
       · have hfi : fM old new a b i = some k := (fM_iff hln hbn f2 g1 f4 g2).2 ⟨g3, g4, htx⟩
         rw [hfi] at hrun
         dsimp only at hrun
         have ht : (!(x.text.toList == y.text.toList)) = false := by rw [htx]; simp
         by_cases hkl : (k : Int) ≤ last
         · rw [if_pos hkl] at hrun
           subst hrun
           have g5 : decide ((k : Int) ≤ last) = true := by simpa using hkl
           rcases List.eq_nil_or_concat out with ho2 | ⟨l, m, ho2⟩
           · subst ho2
             simp only [mtF_nil, mtS_nil, f1, f2, f3, f4, b0, b33, hkey, hfind, g1, g2, hx33, hy33, ht, g5, deepD, nrow, List.append_nil, List.length_nil, List.flatten_cons, List.flatten_nil, Nat.one_mul, ↓Both_true, ↓Both_false, wx, reduceCtorEq, reduceIte, Nat.reduceAdd, Nat.reduceEqDiff, Nat.reduceLT, Nat.reduceLeDiff, wj, ← List.map_take, ← List.map_drop]
             rfl
           · rw [List.concat_eq_append] at ho2
             subst ho2
             simp only [mtF_succ, mtS_snoc, f1, f2, f3, f4, b0, b33, hkey, hfind, g1, g2, hx33, hy33, ht, g5, deepD, nrow, List.append_nil, List.flatten_cons, List.flatten_nil, Nat.one_mul, ↓Both_true, ↓Both_false, wx, reduceCtorEq, reduceIte, Nat.reduceAdd, Nat.reduceEqDiff, Nat.reduceLT, Nat.reduceLeDiff, wj, ← List.map_take, ← List.map_drop]
             rfl
         · rw [if_neg hkl] at hrun
           have g5 : decide ((k : Int) ≤ last) = false := by simpa using hkl
           rcases List.eq_nil_or_concat out with ho2 | ⟨l, m, ho2⟩
           · subst ho2
             have c0 : decide ((0 : Int) > 0) = false := by decide
             have c1 : roomOk 1 24 = true := by decide
             simp only [mtF_nil, mtS_nil, f1, f2, f3, f4, b0, b33, hkey, hfind, g1, g2, hx33, hy33, ht, g5, c0, c1, nrow, List.append_nil, List.length_nil, List.flatten_cons, List.flatten_nil, Nat.one_mul, ↓Both_true, ↓Both_false, wx, reduceCtorEq, reduceIte, Nat.reduceAdd, Nat.reduceEqDiff, Nat.reduceLT, Nat.reduceLeDiff, wj, ← List.map_take, ← List.map_drop]
             refine ⟨rfl, ?_⟩
             refine ⟨rfl, ?_⟩
             exact ⟨mm, (i + 1, [⟨i, k, 1⟩], k, .row 65 3 1, []), Nat.lt_succ_self _, ⟨rfl, rfl, rfl⟩, rfl, by dsimp only; omega, by dsimp only [List.length_cons, List.length_nil]; omega, hmb.put (k := k) (by omega), hrun⟩
           · rw [List.concat_eq_append] at ho2
             subst ho2
             have hmm := hmb m (by simp)
             obtain ⟨r1, r2, r3⟩ := mtA_get l m
             have r4 := mtA_len (l ++ [m])
             have r5 : (l ++ [m]).length = l.length + 1 := by simp
             rw [r5] at r4 hol
             have w0 : decide (((l.length + 1 : Nat) : Int) > 0) = true := by simp only [decide_eq_true_eq]; omega
             have w1 : IntKind.i64.wrap (((l.length + 1 : Nat) : Int) - 1) = ((l.length : Nat) : Int) := wrapN (by omega) (by omega)
             have w3 : IntKind.i64.wrap ((m.a : Int) + (m.len : Int)) = ((m.a + m.len : Nat) : Int) := wrapN (by omega) (by omega)
             have w4 : IntKind.i64.wrap ((m.b : Int) + (m.len : Int)) = ((m.b + m.len : Nat) : Int) := wrapN (by omega) (by omega)
             have w5 : IntKind.i64.wrap ((m.len : Int) + 1) = ((m.len + 1 : Nat) : Int) := wrapN (by omega) (by omega)
             have w6 : l.length < l.length + 1 := Nat.lt_succ_self _
             have w7 : roomOk (l.length + 1 + 1) 24 = true := by simp [roomOk]; omega
             have w8 : l.length * 3 + 2 + 1 ≤ (l.length + 1) * 3 := by omega
             have hmb2 := hmb.put (k := k) (by omega)
             by_cases c1 : m.a + m.len = i
             · have v1 : (((m.a + m.len : Nat) : Int) == (i : Int)) = true := by simp only [beq_iff_eq]; omega
               by_cases c2 : m.b + m.len = k
               · have v2 : (((m.b + m.len : Nat) : Int) == (k : Int)) = true := by simp only [beq_iff_eq]; omega
                 simp only [mtF_succ, mtS_snoc, f1, f2, f3, f4, b0, b33, hkey, hfind, g1, g2, hx33, hy33, ht, g5, r1, r2, r3, r4, w0, w1, w3, w4, w5, w6, w8, v1, v2, Nat.add_zero, nrow, List.append_nil, List.flatten_cons, List.flatten_nil, Nat.one_mul, ↓Both_true, ↓Both_false, wx, reduceCtorEq, reduceIte, Nat.reduceAdd, Nat.reduceEqDiff, Nat.reduceLT, Nat.reduceLeDiff, wj, ← List.map_take, ← List.map_drop]
                 refine ⟨rfl, ?_⟩
                 refine ⟨rfl, ?_⟩
                 refine ⟨mm, (i + 1, l ++ [⟨m.a, m.b, m.len + 1⟩], k, j, J), Nat.lt_succ_self _, ⟨rfl, by rw [mtF_snoc], rfl⟩, ?_, by dsimp only; omega, by dsimp only; rw [List.length_append]; simp; omega, by rw [mPut_yes c1 c2] at hmb2; exact hmb2, by rw [mPut_yes c1 c2] at hrun; exact hrun⟩
                 dsimp only
                 rw [mtS_snoc, mtA_put, mtA_snoc]
               · have v2 : (((m.b + m.len : Nat) : Int) == (k : Int)) = false := by simp only [beq_eq_false_iff_ne, ne_eq]; omega
                 simp only [mtF_succ, mtS_snoc, f1, f2, f3, f4, b0, b33, hkey, hfind, g1, g2, hx33, hy33, ht, g5, r1, r2, r3, r4, w0, w1, w3, w4, w6, w7, v1, v2, Nat.add_zero, nrow, List.append_nil, List.flatten_cons, List.flatten_nil, Nat.one_mul, ↓Both_true, ↓Both_false, wx, reduceCtorEq, reduceIte, Nat.reduceAdd, Nat.reduceEqDiff, Nat.reduceLT, Nat.reduceLeDiff, wj, ← List.map_take, ← List.map_drop]
                 refine ⟨rfl, ?_⟩
                 refine ⟨rfl, ?_⟩
                 have hno : ¬ (m.a + m.len = i ∧ m.b + m.len = k) := fun h => c2 h.2
                 refine ⟨mm, (i + 1, l ++ [m] ++ [⟨i, k, 1⟩], k, j, J ++ [.row 65 3 1]), Nat.lt_succ_self _, ⟨rfl, by rw [mtF_snoc, List.length_append]; rfl, rfl⟩, ?_, by dsimp only; omega, by dsimp only; rw [List.length_append, r5]; simp; omega, by rw [mPut_no hno] at hmb2; exact hmb2, by rw [mPut_no hno] at hrun; exact hrun⟩
                 dsimp only
                 rw [mtS_snoc, mtA_snoc (l ++ [m])]
                 rfl
             · have v1 : (((m.a + m.len : Nat) : Int) == (i : Int)) = false := by simp only [beq_eq_false_iff_ne, ne_eq]; omega
               simp only [mtF_succ, mtS_snoc, f1, f2, f3, f4, b0, b33, hkey, hfind, g1, g2, hx33, hy33, ht, g5, r1, r2, r3, r4, w0, w1, w3, w4, w6, w7, v1, Nat.add_zero, nrow, List.append_nil, List.flatten_cons, List.flatten_nil, Nat.one_mul, ↓Both_true, ↓Both_false, wx, reduceCtorEq, reduceIte, Nat.reduceAdd, Nat.reduceEqDiff, Nat.reduceLT, Nat.reduceLeDiff, wj, ← List.map_take, ← List.map_drop]
               refine ⟨rfl, ?_⟩
               refine ⟨rfl, ?_⟩
               have hno : ¬ (m.a + m.len = i ∧ m.b + m.len = k) := fun h => c1 h.1
               refine ⟨mm, (i + 1, l ++ [m] ++ [⟨i, k, 1⟩], k, j, J ++ [.row 65 3 1]), Nat.lt_succ_self _, ⟨rfl, by rw [mtF_snoc, List.length_append]; rfl, rfl⟩, ?_, by dsimp only; omega, by dsimp only; rw [List.length_append, r5]; simp; omega, by rw [mPut_no hno] at hmb2; exact hmb2, by rw [mPut_no hno] at hrun; exact hrun⟩
               dsimp only
               rw [mtS_snoc, mtA_snoc (l ++ [m])]
               rfl
       · have hfi : fM old new a b i = none := fM_diff hln f2 f4 g2 g3 g4 htx
         rw [hfi] at hrun
         dsimp only at hrun
         have ht : (!(x.text.toList == y.text.toList)) = true := by rw [Go.Proofs.Lg.str_ne htx]; rfl
         rcases List.eq_nil_or_concat out with ho2 | ⟨l, m, ho2⟩
         · subst ho2
           simp only [mtF_nil, mtS_nil, f1, f2, f3, f4, b0, b33, hkey, hfind, g1, g2, hx33, hy33, ht, nrow, List.append_nil, List.length_nil, List.flatten_cons, List.flatten_nil, Nat.one_mul, ↓Both_true, ↓Both_false, wx, reduceCtorEq, reduceIte, Nat.reduceAdd, Nat.reduceEqDiff, Nat.reduceLT, Nat.reduceLeDiff, wj, ← List.map_take, ← List.map_drop]
           exact ⟨rfl, mm, (i + 1, [], last, j, J), Nat.lt_succ_self _, ⟨rfl, rfl, rfl⟩, rfl, by dsimp only; omega, Nat.zero_le _, (fun m hm => by cases hm), hrun⟩
         · rw [List.concat_eq_append] at ho2
           subst ho2
           simp only [mtF_succ, mtS_snoc, f1, f2, f3, f4, b0, b33, hkey, hfind, g1, g2, hx33, hy33, ht, nrow, List.append_nil, List.flatten_cons, List.flatten_nil, Nat.one_mul, ↓Both_true, ↓Both_false, wx, reduceCtorEq, reduceIte, Nat.reduceAdd, Nat.reduceEqDiff, Nat.reduceLT, Nat.reduceLeDiff, wj, ← List.map_take, ← List.map_drop]
           exact ⟨rfl, mm, (i + 1, l ++ [m], last, j, J), Nat.lt_succ_self _, ⟨rfl, by rw [mtF_snoc], rfl⟩, by rw [mtS_snoc], by dsimp only; omega, Nat.le_succ_of_le hol, hmb.mono (Nat.le_succ _), hrun⟩
   · have f1 : decide ((i : Int) < (a.length : Int)) = false := by simpa using hlt
     obtain rfl : mm = 0 := by omega
     have h0 : some out = R := hrun
     subst h0
     rcases List.eq_nil_or_concat out with ho2 | ⟨l, m, ho2⟩
     · subst ho2
       simp only [mtF_nil, mtS_nil, f1, deepD, AV.toL, List.length_nil, List.flatten_cons, List.flatten_nil, Nat.one_mul, ↓Both_true, ↓Both_false, wx, reduceCtorEq, reduceIte, Nat.reduceAdd, Nat.reduceEqDiff, Nat.reduceLT, Nat.reduceLeDiff, wj, ← List.map_take, ← List.map_drop]
     · rw [List.concat_eq_append] at ho2
       subst ho2
       have r4 := mtA_len (l ++ [m])
       simp only [mtF_succ, mtS_snoc, f1, r4, deepD, mapO_mt, dMts, ↓Both_true, ↓Both_false, wx, reduceCtorEq, reduceIte, Nat.reduceAdd, Nat.reduceEqDiff, Nat.reduceLT, Nat.reduceLeDiff, wj, ← List.map_take, ← List.map_drop]
       have h5 := mtA_deep (l ++ [m])
       rw [List.length_append] at h5
       exact ⟨congrArg (fun z => Go.Ab.D.tup [.sl 3 z, .sc (.bool true)]) h5, fun h => absurd h (by simp)⟩
theorem linMatches_fn {old new : Gr} (ho : GrOk old) (hn : GrOk new) {a b : List Nat} (ha : ∀ j ∈ a, j < old.lines.length) (hb : ∀ j ∈ b, j < new.lines.length) (hal : a.length ≤ 1000000) (hbl : b.length ≤ 1000000) (hbn : b.Nodup) (hln : linesOk new.lines = true) :
   AFn Tryz.prog 56 [dGraph old, dGraph new, dNats a, dNats b] (.tup [dMts ((mGo (fM old new a b) (List.range' 0 a.length) (-1) []).getD []), .sc (.bool (mGo (fM old new a b) (List.range' 0 a.length) (-1) []).isSome)]) :=
 AFn_of' ((linMatches_K ho hn ha hb hal hbl hbn hln).mono fun _ _ h => h.1)
theorem linMatches_nil {old new : Gr} (ho : GrOk old) (hn : GrOk new) {a b : List Nat} (ha : ∀ j ∈ a, j < old.lines.length) (hb : ∀ j ∈ b, j < new.lines.length) (hal : a.length ≤ 1000000) (hbl : b.length ≤ 1000000) (hbn : b.Nodup) (hln : linesOk new.lines = true)
   (h0 : mGo (fM old new a b) (List.range' 0 a.length) (-1) [] = some []) (s : List AObj) : FnK Tryz.prog 56 [.d (dGraph old), .d (dGraph new), .d (dNats a), .d (dNats b)] s fun d s' => d = .tup [.nil 3, .d (.sc (.bool true))] ∧ ∃ J, s' = s ++ J := by
 obtain ⟨d, s', h1, _, h2⟩ := linMatches_K ho hn ha hb hal hbl hbn hln
 refine ⟨_, _, FnRuns.frame h1 rfl s, ?_, _, rfl⟩
 rw [h2 h0]; rfl
end Go.Proofs.Lh

namespace Go.Proofs.Lh
open Go Go.Bb Go.RowKit Go.Proofs.Lg
theorem key_box {v : Vtx} (h : v.ok) : AV.key true (.agg ((vrow v).map AV.d |>.take 33)) = some (idVs v) := by
 rw [← List.map_take, vrow_id h]
 simp only [AV.key, AV.row, Option.bind_some, List.map_map, if_true]
 have h2 : List.map (AV.d ∘ Go.Ab.D.sc) (idVs v) = (idVs v).map fun u => AV.d (.sc u) := rfl
 rw [h2, scsA_sc]
theorem vrow_t35 {v : Vtx} (h : v.ok) : (vrow v).take 35 = vrow v := List.take_of_length_le (by rw [vrow_35 h]; exact Nat.le_refl _)
end Go.Proofs.Lh

namespace Go.Proofs.Lg
open Go Go.RowKit Go.Shelf
def SeqTold {α : Type} (F : Fence) (n : Nat) (P : Program) (g : Nat) (lb : Array Value) (encs : α → Array Value) (T : α → World → Prop) (Kp : World → World → Prop) (S : List α → Prop) (N : Nat) (w : World) : Prop :=
 ∀ (l : Nat) (J : List α → World → Prop) (W : World), Below w.heap.size w W → (∀ xs A B, J xs A → Below A.heap.size A B → J xs B) →
   (∀ pre x W1, J pre W1 → pre.length < N → T x W1 → YieldAt F (n - 1) P l (encs x) W1 fun e W' => e = .returned (.bool true) ∧ J (pre ++ [x]) W' ∧ Kp W1 W') →
   J [] W → CallsIn F n P g (#[.func (.yield l) #[] #[]] ++ lb) W fun e W' => (∃ v, e = .returned v) ∧ ∃ xs, S xs ∧ J xs W'
def Steady (B : Nat) (I : World → Prop) : Prop := ∀ (A : World) (l : Nat) (o o' : Obj), B ≤ l → A.heap[l]? = some o → o.isCells = false → o.isWalk = false → I A → I (A.putObj l o')
theorem wpIn_rangeFunc_told {α : Type} {F : Fence} {n : Nat} {P : Program} {g : Operand} {ps : Array Tmp} {assign body : Code} {Q : Exit → Act → World → Prop} {a : Act} {w : World}
   (hro : F.round = none) (h1 : 1 ≤ n) {gf : Nat} {lb : Array Value} (hg : a.eval g = .func (.func gf) #[] lb) (hFg : F.fn gf) (eg : ∀ args w, (callFunc gf args).run P w = .ok (.enter gf args) w)
   {encs : α → Array Value} {T : α → World → Prop} {Kp : World → World → Prop} {S : List α → Prop} {N : Nat} {w0 : World} (hseq : SeqTold F (n - 1) P gf lb encs T Kp S N w0) (hb0 : Below w0.heap.size w0 w) (hps : ∀ x, (encs x).size = ps.size)
   (I : List α → World → Prop) (hIb : ∀ xs A B, I xs A → Below A.heap.size A B → I xs B) (hIl : ∀ xs, Steady w.heap.size (I xs)) (hTl : ∀ x, Steady w.heap.size (T x)) (hKt : ∀ {A B C : World}, Kp A B → Kp B C → Kp A C) (hKl : ∀ A, Steady w.heap.size (Kp A)) (hKr : ∀ A, Kp A A)
   (h0 : I [] w) (Ax : α → Act → World → Prop) (hAl : ∀ x a', Steady w.heap.size (Ax x a'))
   (hassign : ∀ (l : Nat) (pre : List α) (x : α) (W : World) (K : Act → World → Prop), I pre W → T x W → (∀ a' W', KeepsFrom w.heap.size W W' → Kp W W' → I pre W' → T x W' → Ax x a' W' → K a' W') →
     assign.wpIn (F.inRound l) (n - 1 - 1) P (Exit.then K (fun _ _ _ => False)) { tmps := (ps.zip (encs x)).foldl (fun t (p, v) => t.setIfInBounds p v) a.tmps, defers := [] } W)
   (hbody : ∀ (l : Nat) (pre : List α) (x : α) (a' : Act) (W : World), I pre W → T x W → Ax x a' W → pre.length < N →
     body.wpIn (F.inRound l) (n - 1 - 1) P (Exit.then (fun _ W' => KeepsFrom w.heap.size W W' ∧ Kp W W' ∧ I (pre ++ [x]) W') (fun _ _ _ => False)) a' W)
   (hdone : ∀ (D : Nat) (xs : List α) (W : World), w.heap.size ≤ D → S xs → I xs W → W.heap[D]? = some (.deferred (some [])) → Q .normal { a with defers := { target := .collected D, args := #[] } :: a.defers } W) :
   (Code.rangeFunc g ps assign body).wpIn F n P Q a w := by
 refine wpIn_rangeFunc fun fn hfn => ?_
 rw [hro]
 have hrec : ∃ rec : LoopState → Option Code → Loop, rec = fun st pe => { state := st, pending := pe, fn, tmps := a.tmps, params := ps, assign, body, defers := w.heap.size } := ⟨_, rfl⟩
 obtain ⟨rec, hrec⟩ := hrec
 have hwd : Below w.heap.size w ((w.alloc (.deferred (some []))).alloc (.loop (rec .ready none))) := ((Below.refl _ w).alloc (Nat.le_refl _) _).alloc (by simp) _
 have hL : ((w.alloc (.deferred (some []))).alloc (.loop (rec .ready none))).heap[w.heap.size + 1]? = some (.loop (rec .ready none)) := by
   have := World.alloc_heap_new (w.alloc (.deferred (some []))) (.loop (rec .ready none)); rwa [World.size_alloc] at this
 have hD : ((w.alloc (.deferred (some []))).alloc (.loop (rec .ready none))).heap[w.heap.size]? = some (.deferred (some [])) :=
   (Below.heap_alloc _ _ _ (by simp)).trans (World.alloc_heap_new w _)
 have hent := run_enterLoop_outer (P := P) (w := w) fn a.tmps ps assign body
 rw [show ({ state := .ready, pending := none, fn, tmps := a.tmps, params := ps, assign, body, defers := w.heap.size } : Loop) = rec .ready none by rw [hrec]] at hent
 generalize (w.alloc (.deferred (some []))).alloc (.loop (rec .ready none)) = W1 at hwd hL hD hent
 refine ⟨w.heap.size + 1, [{ target := .collected w.heap.size, args := #[] }], W1, { target := .fn (.func gf) lb, args := #[.func (.yield (w.heap.size + 1)) #[] #[]] }, W1, gf,
   #[.func (.yield (w.heap.size + 1)) #[] #[]] ++ lb, W1, hent, ?_, ?_, ?_, fun _ => h1, ?_⟩
 · simp only [resolve, hg]
   simp [go_sem]
 · intro f' hf'; simp [Target.leads] at hf'; subst hf'; exact hFg
 · simp [invoke, go_sem, eg]
 refine (hseq (w.heap.size + 1) (fun pre W => I pre W ∧ W.heap[w.heap.size + 1]? = some (.loop (rec .ready none)) ∧ W.heap[w.heap.size]? = some (.deferred (some []))) W1 (hb0.trans (hwd.mono hb0.size))
   (fun xs A B h hB => ⟨hIb xs A B h.1 hB, (hB.block _ (Array.getElem?_eq_some_iff.1 h.2.1).1).trans h.2.1, (hB.block _ (Array.getElem?_eq_some_iff.1 h.2.2).1).trans h.2.2⟩) ?_ ⟨hIb _ _ _ h0 hwd, hL, hD⟩).mono ?_
 · rintro pre x W ⟨hi, hl, hk⟩ hlen hT
   have hy := run_yield (P := P) (args := encs x) hl (by rw [hrec]; exact hps x)
   rw [hrec] at hy
   refine ⟨fn, _, assign, body, hy, roundIn_of_wpIn hfn (hassign _ pre x W _ hi hT fun a' Wa hkf hkp hia hTa hax => ?_)⟩
   have hla := hkf.same _ _ (Nat.le_succ _) hl rfl
   have hka := hkf.same _ _ (Nat.le_refl _) hk rfl
   have hlt : w.heap.size + 1 < Wa.heap.size := (Array.getElem?_eq_some_iff.1 hla).1
   refine ⟨_, run_beginRound hla (by rw [hrec]), ?_⟩
   have hl2 : (Wa.putObj (w.heap.size + 1) (.loop { rec .ready none with state := .busy })).heap[w.heap.size + 1]? = some (.loop { rec .ready none with state := .busy }) := World.putObj_heap_same hlt
   have hk2 : (Wa.putObj (w.heap.size + 1) (.loop { rec .ready none with state := .busy })).heap[w.heap.size]? = some (.deferred (some [])) := (World.putObj_heap_other (by omega)).trans hka
   refine wpIn_mono (hbody _ pre x a' _ (hIl _ _ _ _ _ (Nat.le_succ _) hla rfl rfl hia) (hTl _ _ _ _ _ (Nat.le_succ _) hla rfl rfl hTa) (hAl _ _ _ _ _ _ (Nat.le_succ _) hla rfl rfl hax) hlen) ?_
   rintro e a3 W3 hp
   cases e with
   | normal =>
     obtain ⟨hk3, hkp3, hi3⟩ := hp
     have hl3 := hk3.same _ _ (Nat.le_succ _) hl2 rfl
     have hd3 := hk3.same _ _ (Nat.le_refl _) hk2 rfl
     have hend := run_endRound (P := P) none hl3
     have e : ({ ({ rec .ready none with state := .busy } : Loop) with state := if (none : Option Code).isNone then .ready else .done, pending := none } : Loop) = rec .ready none := by rw [hrec]; rfl
     rw [e] at hend
     have hlt3 : w.heap.size + 1 < W3.heap.size := (Array.getElem?_eq_some_iff.1 hl3).1
     exact ⟨_, _, hend, rfl, ⟨hIl _ _ _ _ _ (Nat.le_succ _) hl3 rfl rfl hi3, World.putObj_heap_same hlt3, (World.putObj_heap_other (by omega)).trans hd3⟩,
       hKt hkp (hKt (hKl Wa Wa _ _ _ (Nat.le_succ _) hla rfl rfl (hKr Wa)) (hKt hkp3 (hKl W3 W3 _ _ _ (Nat.le_succ _) hl3 rfl rfl (hKr W3))))⟩
   | ret => exact hp.elim
   | exit id => exact hp.elim
   | goto t => exact hp.elim
   | panic ch => exact hp.elim
   | outgrown => exact hp.elim
 · rintro e W2 ⟨⟨v, rfl⟩, xs, hS, hi, hl, hk⟩
   exact ⟨none, _, by have := run_endLoop (P := P) hl (by rw [hrec]; simp); rw [hrec] at this; exact this, hdone _ xs _ (Nat.le_refl _) hS (hIl _ _ _ _ _ (Nat.le_succ _) hl rfl rfl hi) ((World.putObj_heap_other (by omega)).trans hk)⟩
end Go.Proofs.Lg
