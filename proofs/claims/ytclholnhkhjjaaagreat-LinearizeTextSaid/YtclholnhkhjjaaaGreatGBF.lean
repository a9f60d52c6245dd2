/-
  Part GBF of this claim's proof. Joined by merge.py from the texts of wip/tpl.
-/
import Derived.Test.YtclholnhkhjjaaaGreatGAZ
import Derived.Test.YtclholnhkhjjaaaGreatGBE
set_option linter.unusedVariables false
set_option linter.unusedSimpArgs false
set_option linter.unnecessarySimpa false
namespace Go.Proofs.Lh
open Go Go.Bb Go.RowKit Go.Proofs.Lg
theorem vrow_35 {v : Vtx} (h : v.ok) : (vrow v).length = 35 := by simp [vrow, Vtx.cells, h.1]
theorem vrow_33 {v : Vtx} (h : v.ok) : (vrow v).drop 33 = [.sc (.string v.text), .sc (.bool v.living)] := by
 have h2 : vrow v = (idVs v).map .sc ++ [.sc (.string v.text), .sc (.bool v.living)] := by simp [vrow, Vtx.cells, idVs]
 have h3 : ((idVs v).map Go.Ab.D.sc).length = 33 := by rw [List.length_map, idVs_len h]
 rw [h2, List.drop_append, h3, List.drop_eq_nil_of_le (by omega)]; rfl
def mtF (n : Nat) : AV := if n = 0 then .nil 3 else .vec 4 n 3
def mtS (A B M j : AObj) (out : List Mt) (J : List AObj) : List AObj := if out = [] then [A, B, M] else A :: B :: M :: j :: .vec 65 3 (mtA out) :: J
theorem mtF_nil : mtF 0 = .nil 3 := rfl
theorem mtF_succ (n : Nat) : mtF (n + 1) = .vec 4 (n + 1) 3 := rfl
theorem mtF_snoc (l : List Mt) (m : Mt) : mtF (l ++ [m]).length = .vec 4 (l.length + 1) 3 := by rw [List.length_append]; rfl
theorem mtS_nil (A B M j : AObj) (J : List AObj) : mtS A B M j [] J = [A, B, M] := if_pos rfl
theorem mtS_snoc (A B M j : AObj) (l : List Mt) (m : Mt) (J : List AObj) : mtS A B M j (l ++ [m]) J = A :: B :: M :: j :: .vec 65 3 (mtA (l ++ [m])) :: J := if_neg (by simp)
theorem fM_none {old new : Gr} {a b : List Nat} {i p : Nat} {x : Vtx} (h1 : a[i]? = some p) (h2 : old.lines[p]? = some x) (h : plF new.lines x b = none) : fM old new a b i = none := by
 cases hf : fM old new a b i with
 | none => rfl
 | some k =>
   obtain ⟨p', q, x', y, e1, e2, e3, e4, hs⟩ := fM_spec hf
   rw [h1] at e1; obtain rfl := Option.some.inj e1
   rw [h2] at e3; obtain rfl := Option.some.inj e3
   have := List.findIdx?_eq_none_iff.1 h q (List.mem_of_getElem? e2)
   rw [e4, Option.any_some, decide_eq_true hs.1, decide_eq_true hs.2.1] at this
   cases this
theorem plF_spec {new : Gr} {b : List Nat} {x : Vtx} {k : Nat} (h : plF new.lines x b = some k) : ∃ q y, b[k]? = some q ∧ new.lines[q]? = some y ∧ x.id = y.id ∧ x.n = y.n := by
 obtain ⟨hk, h3, _⟩ := List.findIdx?_eq_some_iff_getElem.1 h
 cases h4 : new.lines[b[k]]? with
 | none => rw [h4] at h3; cases h3
 | some y =>
   rw [h4, Option.any_some, Bool.and_eq_true, decide_eq_true_eq, decide_eq_true_eq] at h3
   exact ⟨b[k], y, List.getElem?_eq_getElem hk, h4, h3.1, h3.2⟩
theorem fM_diff {old new : Gr} {a b : List Nat} (hn : linesOk new.lines = true) {i p q : Nat} {x y : Vtx} (h1 : a[i]? = some p) (h2 : old.lines[p]? = some x) (h3 : new.lines[q]? = some y) (hid : x.id = y.id) (hnn : x.n = y.n) (ht : x.text ≠ y.text) : fM old new a b i = none := by
 cases hf : fM old new a b i with
 | none => rfl
 | some k =>
   obtain ⟨p', q', x', y', e1, e2, e3, e4, hs⟩ := fM_spec hf
   rw [h1] at e1; obtain rfl := Option.some.inj e1
   rw [h2] at e3; obtain rfl := Option.some.inj e3
   have hq : q = q' := ids_inj hn h3 e4 (hid.symm.trans hs.1) (hnn.symm.trans hs.2.1)
   subst hq
   rw [h3] at e4; obtain rfl := Option.some.inj e4
   exact absurd hs.2.2 ht
set_option maxRecDepth 10000 in
set_option maxHeartbeats 4000000 in
theorem linMatches_K {old new : Gr} (ho : GrOk old) (hn : GrOk new) {a b : List Nat} (ha : ∀ j ∈ a, j < old.lines.length) (hb : ∀ j ∈ b, j < new.lines.length) (hal : a.length ≤ 1000000) (hbl : b.length ≤ 1000000) (hbn : b.Nodup) (hln : linesOk new.lines = true) :
   FnK Tryz.prog 56 [.d (dGraph old), .d (dGraph new), .d (dNats a), .d (dNats b)] [] fun d s => deepD s 5 d = some (.tup [dMts ((mGo (fM old new a b) (List.range' 0 a.length) (-1) []).getD []), .sc (.bool (mGo (fM old new a b) (List.range' 0 a.length) (-1) []).isSome)]) ∧ (mGo (fM old new a b) (List.range' 0 a.length) (-1) [] = some [] → d = .tup [.nil 3, .d (.sc (.bool true))]) := by
 generalize hR : mGo (fM old new a b) (List.range' 0 a.length) (-1) [] = R
 refine FnK.of (F := k_linMatches) (okb_linMatches.trans (by kernel_rfl)) (by simp [k_linMatches]) ?_
 simp only [k_linMatches, dGraph, dNats, dMts, dLines, ↓Both_true, ↓Both_false, wx, reduceCtorEq, reduceIte, Nat.reduceAdd, Nat.reduceEqDiff, Nat.reduceLT, Nat.reduceLeDiff]
 refine LoopK.count (fun k => [(23, .d (.sc (.int .i64 k))), (22, .d (.sc (.int .i64 b.length))), (21, .d (.sl 1 (b.map nrow))), (10, .mp 2), (4, .ptr 0 0), (5, .ptr 1 0), (2, .d (.sl 1 (a.map nrow))), (3, .d (.sl 1 (b.map nrow)))])
   (fun k => [.cells [.d (.sl 35 (old.lines.map vrow)), .d (dEdges old.edges)], .cells [.d (.sl 35 (new.lines.map vrow)), .d (dEdges new.edges)], .map true (plE new.lines 0 (b.take k))]) (fun _ => True) b.length (by simp [SubB, Go.Bb.look, intD]) rfl trivial fun k hk _ => ?_
 by_cases hlt : k < b.length
 · have f1 : decide ((k : Int) < (b.length : Int)) = true := by simpa using hlt
   have f2 : b[k]? = some b[k] := List.getElem?_eq_getElem hlt
   have f3 : IntKind.i64.wrap ((k : Int) + 1) = ((k + 1 : Nat) : Int) := wrapN (by omega) (by omega)
   have hq := hb b[k] (List.getElem_mem _)
   have hsn := fun q (x : Vtx) (h : new.lines[q]? = some x) => plE_snoc new.lines (b.take k) 0 q x h
   have htk : b.take (k + 1) = b.take k ++ [b[k]] := List.take_succ_eq_append_getElem hlt
   have f4 : new.lines[b[k]]? = some new.lines[b[k]] := List.getElem?_eq_getElem hq
   have hxo := hn.okl new.lines[b[k]] (List.getElem_mem _)
   have hnone : plF new.lines new.lines[b[k]] (b.take k) = none := by
     unfold plF
     rw [List.findIdx?_eq_none_iff]
     intro q hqm
     have hqb : q < new.lines.length := hb q (List.mem_of_mem_take hqm)
     rw [List.getElem?_eq_getElem hqb, Option.any_some]
     rw [Bool.eq_false_iff]
     intro hc
     rw [Bool.and_eq_true, decide_eq_true_eq, decide_eq_true_eq] at hc
     have he : b[k] = q := ids_inj hln f4 (List.getElem?_eq_getElem hqb) hc.1 hc.2
     subst he
     obtain ⟨j, hj, hjk⟩ := List.mem_take_iff_getElem.1 hqm
     have := nd_get hbn (List.getElem?_eq_getElem (by omega)) (show b[k]? = some b[j] by rw [f2, hjk])
     omega
   have hfind := findE_plE hn.okl hxo (b.take k) 0 0 (fun q hqm => hb q (List.mem_of_mem_take hqm))
   rw [hnone] at hfind
   have hs2 := hsn _ _ f4
   rw [← htk] at hs2
   have hlen : (b.take k).length = k := by rw [List.length_take]; omega
   rw [hlen, Nat.zero_add] at hs2
   have hkey := key_id hxo
   have b0 := vrow_35 hxo
   generalize new.lines[b[k]] = x at f4 hxo hfind hkey b0 hs2
   generalize b[k] = q at f2 f4
   have b33 : 33 ≤ 35 := by decide
   unfold ks33 at hkey hfind
   simp only [f1, f2, f3, f4, b0, b33, hkey, hfind, hlt, nrow, List.append_nil, List.flatten_cons, List.flatten_nil, Nat.one_mul, ↓Both_true, ↓Both_false, wx, reduceCtorEq, reduceIte, Nat.reduceAdd, Nat.reduceEqDiff, Nat.reduceLT, Nat.reduceLeDiff, wj, ← List.map_take, ← List.map_drop]
   rw [hs2]
 · have f1 : decide ((k : Int) < (b.length : Int)) = false := by simpa using hlt
   have htk : b.take k = b := List.take_of_length_le (by omega)
   simp only [f1, htk, ↓Both_true, ↓Both_false, wx, reduceCtorEq, reduceIte, Nat.reduceAdd, Nat.reduceEqDiff, Nat.reduceLT, Nat.reduceLeDiff, wj, ← List.map_take, ← List.map_drop]
   refine LoopK.at (fun s : Nat × List Mt × Int × AObj × List AObj => [(39, .d (.sc (.int .i64 s.1))), (38, .d (.sc (.int .i64 a.length))), (37, .d (.sl 1 (a.map nrow))), (13, mtF s.2.1.length), (14, .d (.sc (.int .i64 s.2.2.1))), (10, .mp 2), (4, .ptr 0 0), (5, .ptr 1 0), (2, .d (.sl 1 (a.map nrow))), (3, .d (.sl 1 (b.map nrow)))])
     (fun s => mtS (.cells [.d (.sl 35 (old.lines.map vrow)), .d (dEdges old.edges)]) (.cells [.d (.sl 35 (new.lines.map vrow)), .d (dEdges new.edges)]) (.map true (plE new.lines 0 b)) s.2.2.2.1 s.2.1 s.2.2.2.2)
     (fun mm s => mm + s.1 = a.length ∧ s.2.1.length ≤ s.1 ∧ MtB s.1 s.2.1 ∧ mGo (fM old new a b) (List.range' s.1 mm) s.2.2.1 s.2.1 = R)
     a.length (0, [], -1, .row 0 0 0, []) (by simp [SubB, Go.Bb.look, intD, mtF]) rfl ⟨rfl, Nat.le_refl _, (fun m hm => by cases hm), hR⟩ ?_
   rintro mm ⟨i, out, last, j, J⟩ ⟨hm, hol, hmb, hrun⟩
   dsimp only at hm hol hmb hrun ⊢
   by_cases hlt : i < a.length
   · have f1 : decide ((i : Int) < (a.length : Int)) = true := by simpa using hlt
     have f2 : a[i]? = some a[i] := List.getElem?_eq_getElem hlt
     have f3 : IntKind.i64.wrap ((i : Int) + 1) = ((i + 1 : Nat) : Int) := wrapN (by omega) (by omega)
     have hp := ha a[i] (List.getElem_mem _)
     generalize a[i] = p at f2 hp
     have f4 : old.lines[p]? = some old.lines[p] := List.getElem?_eq_getElem hp
     have hxo := ho.okl old.lines[p] (List.getElem_mem _)
     generalize old.lines[p] = x at f4 hxo
     obtain ⟨mm, rfl⟩ : ∃ m', mm = m' + 1 := ⟨mm - 1, by omega⟩
     rw [List.range'_succ, mGo] at hrun
     have hfind := findE_plE hn.okl hxo b 0 0 hb
     have hkey := key_id hxo
     have b0 := vrow_35 hxo
     have b33 : 33 ≤ 35 := by decide
     have hx33 := vrow_33 hxo
     unfold ks33 at hkey hfind
     have hmo : i + 1 + mm = a.length := by omega
     cases hpl : plF new.lines x b with
     | none =>
       have hfi : fM old new a b i = none := fM_none f2 f4 hpl
       rw [hfi] at hrun
       dsimp only at hrun
       rw [hpl] at hfind
       rcases List.eq_nil_or_concat out with ho2 | ⟨l, m, ho2⟩
       · subst ho2
         simp only [mtF_nil, mtS_nil, f1, f2, f3, f4, b0, b33, hkey, hfind, nrow, List.append_nil, List.length_nil, List.flatten_cons, List.flatten_nil, Nat.one_mul, ↓Both_true, ↓Both_false, wx, reduceCtorEq, reduceIte, Nat.reduceAdd, Nat.reduceEqDiff, Nat.reduceLT, Nat.reduceLeDiff, wj, ← List.map_take, ← List.map_drop]
         exact ⟨rfl, mm, (i + 1, [], last, j, J), Nat.lt_succ_self _, ⟨rfl, rfl, rfl⟩, rfl, by dsimp only; omega, Nat.zero_le _, (fun m hm => by cases hm), hrun⟩
       · rw [List.concat_eq_append] at ho2
         subst ho2
         simp only [mtF_succ, mtS_snoc, f1, f2, f3, f4, b0, b33, hkey, hfind, nrow, List.append_nil, List.flatten_cons, List.flatten_nil, Nat.one_mul, ↓Both_true, ↓Both_false, wx, reduceCtorEq, reduceIte, Nat.reduceAdd, Nat.reduceEqDiff, Nat.reduceLT, Nat.reduceLeDiff, wj, ← List.map_take, ← List.map_drop]
         exact ⟨rfl, mm, (i + 1, l ++ [m], last, j, J), Nat.lt_succ_self _, ⟨rfl, by rw [mtF_snoc], rfl⟩, by rw [mtS_snoc], by dsimp only; omega, Nat.le_succ_of_le hol, hmb.mono (Nat.le_succ _), hrun⟩
     | some k =>
       obtain ⟨q, y, g1, g2, g3, g4⟩ := plF_spec hpl
       have hyo := hn.okl y (List.mem_of_getElem? g2)
       have hkb : k < b.length := (List.getElem?_eq_some_iff.1 g1).1
       have hy33 := vrow_33 hyo
       rw [hpl] at hfind
       by_cases htx : x.text = y.text
       · have hfi : fM old new a b i = some k := (fM_iff hln hbn f2 g1 f4 g2).2 ⟨g3, g4, htx⟩
         rw [hfi] at hrun
         dsimp only at hrun
         have ht : (!(x.text.toList == y.text.toList)) = false := by rw [htx]; simp
         by_cases hkl : (k : Int) ≤ last
         · rw [if_pos hkl] at hrun
           subst hrun
           have g5 : decide ((k : Int) ≤ last) = true := by simpa using hkl
           rcases List.eq_nil_or_concat out with ho2 | ⟨l, m, ho2⟩
           · subst ho2
             simp only [mtF_nil, mtS_nil, f1, f2, f3, f4, b0, b33, hkey, hfind, g1, g2, hx33, hy33, ht, g5, deepD, nrow, List.append_nil, List.length_nil, List.flatten_cons, List.flatten_nil, Nat.one_mul, ↓Both_true, ↓Both_false, wx, reduceCtorEq, reduceIte, Nat.reduceAdd, Nat.reduceEqDiff, Nat.reduceLT, Nat.reduceLeDiff, wj, ← List.map_take, ← List.map_drop]
             rfl
           · rw [List.concat_eq_append] at ho2
             subst ho2
             simp only [mtF_succ, mtS_snoc, f1, f2, f3, f4, b0, b33, hkey, hfind, g1, g2, hx33, hy33, ht, g5, deepD, nrow, List.append_nil, List.flatten_cons, List.flatten_nil, Nat.one_mul, ↓Both_true, ↓Both_false, wx, reduceCtorEq, reduceIte, Nat.reduceAdd, Nat.reduceEqDiff, Nat.reduceLT, Nat.reduceLeDiff, wj, ← List.map_take, ← List.map_drop]
             rfl
         · rw [if_neg hkl] at hrun
           have g5 : decide ((k : Int) ≤ last) = false := by simpa using hkl
           rcases List.eq_nil_or_concat out with ho2 | ⟨l, m, ho2⟩
           · subst ho2
             have c0 : decide ((0 : Int) > 0) = false := by decide
             have c1 : roomOk 1 24 = true := by decide
             simp only [mtF_nil, mtS_nil, f1, f2, f3, f4, b0, b33, hkey, hfind, g1, g2, hx33, hy33, ht, g5, c0, c1, nrow, List.append_nil, List.length_nil, List.flatten_cons, List.flatten_nil, Nat.one_mul, ↓Both_true, ↓Both_false, wx, reduceCtorEq, reduceIte, Nat.reduceAdd, Nat.reduceEqDiff, Nat.reduceLT, Nat.reduceLeDiff, wj, ← List.map_take, ← List.map_drop]
             refine ⟨rfl, ?_⟩
             refine ⟨rfl, ?_⟩
             exact ⟨mm, (i + 1, [⟨i, k, 1⟩], k, .row 65 3 1, []), Nat.lt_succ_self _, ⟨rfl, rfl, rfl⟩, rfl, by dsimp only; omega, by dsimp only [List.length_cons, List.length_nil]; omega, hmb.put (k := k) (by omega), hrun⟩
           · rw [List.concat_eq_append] at ho2
             subst ho2
             have hmm := hmb m (by simp)
             obtain ⟨r1, r2, r3⟩ := mtA_get l m
             have r4 := mtA_len (l ++ [m])
             have r5 : (l ++ [m]).length = l.length + 1 := by simp
             rw [r5] at r4 hol
             have w0 : decide (((l.length + 1 : Nat) : Int) > 0) = true := by simp only [decide_eq_true_eq]; omega
             have w1 : IntKind.i64.wrap (((l.length + 1 : Nat) : Int) - 1) = ((l.length : Nat) : Int) := wrapN (by omega) (by omega)
             have w3 : IntKind.i64.wrap ((m.a : Int) + (m.len : Int)) = ((m.a + m.len : Nat) : Int) := wrapN (by omega) (by omega)
             have w4 : IntKind.i64.wrap ((m.b : Int) + (m.len : Int)) = ((m.b + m.len : Nat) : Int) := wrapN (by omega) (by omega)
             have w5 : IntKind.i64.wrap ((m.len : Int) + 1) = ((m.len + 1 : Nat) : Int) := wrapN (by omega) (by omega)
             have w6 : l.length < l.length + 1 := Nat.lt_succ_self _
             have w7 : roomOk (l.length + 1 + 1) 24 = true := by simp [roomOk]; omega
             have w8 : l.length * 3 + 2 + 1 ≤ (l.length + 1) * 3 := by omega
             have hmb2 := hmb.put (k := k) (by omega)
             by_cases c1 : m.a + m.len = i
             · have v1 : (((m.a + m.len : Nat) : Int) == (i : Int)) = true := by simp only [beq_iff_eq]; omega
               by_cases c2 : m.b + m.len = k
               · have v2 : (((m.b + m.len : Nat) : Int) == (k : Int)) = true := by simp only [beq_iff_eq]; omega
                 simp only [mtF_succ, mtS_snoc, f1, f2, f3, f4, b0, b33, hkey, hfind, g1, g2, hx33, hy33, ht, g5, r1, r2, r3, r4, w0, w1, w3, w4, w5, w6, w8, v1, v2, Nat.add_zero, nrow, List.append_nil, List.flatten_cons, List.flatten_nil, Nat.one_mul, ↓Both_true, ↓Both_false, wx, reduceCtorEq, reduceIte, Nat.reduceAdd, Nat.reduceEqDiff, Nat.reduceLT, Nat.reduceLeDiff, wj, ← List.map_take, ← List.map_drop]
                 refine ⟨rfl, ?_⟩
                 refine ⟨rfl, ?_⟩
                 refine ⟨mm, (i + 1, l ++ [⟨m.a, m.b, m.len + 1⟩], k, j, J), Nat.lt_succ_self _, ⟨rfl, by rw [mtF_snoc], rfl⟩, ?_, by dsimp only; omega, by dsimp only; rw [List.length_append]; simp; omega, by rw [mPut_yes c1 c2] at hmb2; exact hmb2, by rw [mPut_yes c1 c2] at hrun; exact hrun⟩
                 dsimp only
                 rw [mtS_snoc, mtA_put, mtA_snoc]
               · have v2 : (((m.b + m.len : Nat) : Int) == (k : Int)) = false := by simp only [beq_eq_false_iff_ne, ne_eq]; omega
                 simp only [mtF_succ, mtS_snoc, f1, f2, f3, f4, b0, b33, hkey, hfind, g1, g2, hx33, hy33, ht, g5, r1, r2, r3, r4, w0, w1, w3, w4, w6, w7, v1, v2, Nat.add_zero, nrow, List.append_nil, List.flatten_cons, List.flatten_nil, Nat.one_mul, ↓Both_true, ↓Both_false, wx, reduceCtorEq, reduceIte, Nat.reduceAdd, Nat.reduceEqDiff, Nat.reduceLT, Nat.reduceLeDiff, wj, ← List.map_take, ← List.map_drop]
                 refine ⟨rfl, ?_⟩
                 refine ⟨rfl, ?_⟩
                 have hno : ¬ (m.a + m.len = i ∧ m.b + m.len = k) := fun h => c2 h.2
                 refine ⟨mm, (i + 1, l ++ [m] ++ [⟨i, k, 1⟩], k, j, J ++ [.row 65 3 1]), Nat.lt_succ_self _, ⟨rfl, by rw [mtF_snoc, List.length_append]; rfl, rfl⟩, ?_, by dsimp only; omega, by dsimp only; rw [List.length_append, r5]; simp; omega, by rw [mPut_no hno] at hmb2; exact hmb2, by rw [mPut_no hno] at hrun; exact hrun⟩
                 dsimp only
                 rw [mtS_snoc, mtA_snoc (l ++ [m])]
                 rfl
             · have v1 : (((m.a + m.len : Nat) : Int) == (i : Int)) = false := by simp only [beq_eq_false_iff_ne, ne_eq]; omega
               simp only [mtF_succ, mtS_snoc, f1, f2, f3, f4, b0, b33, hkey, hfind, g1, g2, hx33, hy33, ht, g5, r1, r2, r3, r4, w0, w1, w3, w4, w6, w7, v1, Nat.add_zero, nrow, List.append_nil, List.flatten_cons, List.flatten_nil, Nat.one_mul, ↓Both_true, ↓Both_false, wx, reduceCtorEq, reduceIte, Nat.reduceAdd, Nat.reduceEqDiff, Nat.reduceLT, Nat.reduceLeDiff, wj, ← List.map_take, ← List.map_drop]
               refine ⟨rfl, ?_⟩
               refine ⟨rfl, ?_⟩
               have hno : ¬ (m.a + m.len = i ∧ m.b + m.len = k) := fun h => c1 h.1
               refine ⟨mm, (i + 1, l ++ [m] ++ [⟨i, k, 1⟩], k, j, J ++ [.row 65 3 1]), Nat.lt_succ_self _, ⟨rfl, by rw [mtF_snoc, List.length_append]; rfl, rfl⟩, ?_, by dsimp only; omega, by dsimp only; rw [List.length_append, r5]; simp; omega, by rw [mPut_no hno] at hmb2; exact hmb2, by rw [mPut_no hno] at hrun; exact hrun⟩
               dsimp only
               rw [mtS_snoc, mtA_snoc (l ++ [m])]
               rfl
       · have hfi : fM old new a b i = none := fM_diff hln f2 f4 g2 g3 g4 htx
         rw [hfi] at hrun
         dsimp only at hrun
         have ht : (!(x.text.toList == y.text.toList)) = true := by rw [Go.Proofs.Lg.str_ne htx]; rfl
         rcases List.eq_nil_or_concat out with ho2 | ⟨l, m, ho2⟩
         · subst ho2
           simp only [mtF_nil, mtS_nil, f1, f2, f3, f4, b0, b33, hkey, hfind, g1, g2, hx33, hy33, ht, nrow, List.append_nil, List.length_nil, List.flatten_cons, List.flatten_nil, Nat.one_mul, ↓Both_true, ↓Both_false, wx, reduceCtorEq, reduceIte, Nat.reduceAdd, Nat.reduceEqDiff, Nat.reduceLT, Nat.reduceLeDiff, wj, ← List.map_take, ← List.map_drop]
           exact ⟨rfl, mm, (i + 1, [], last, j, J), Nat.lt_succ_self _, ⟨rfl, rfl, rfl⟩, rfl, by dsimp only; omega, Nat.zero_le _, (fun m hm => by cases hm), hrun⟩
         · rw [List.concat_eq_append] at ho2
           subst ho2
           simp only [mtF_succ, mtS_snoc, f1, f2, f3, f4, b0, b33, hkey, hfind, g1, g2, hx33, hy33, ht, nrow, List.append_nil, List.flatten_cons, List.flatten_nil, Nat.one_mul, ↓Both_true, ↓Both_false, wx, reduceCtorEq, reduceIte, Nat.reduceAdd, Nat.reduceEqDiff, Nat.reduceLT, Nat.reduceLeDiff, wj, ← List.map_take, ← List.map_drop]
           exact ⟨rfl, mm, (i + 1, l ++ [m], last, j, J), Nat.lt_succ_self _, ⟨rfl, by rw [mtF_snoc], rfl⟩, by rw [mtS_snoc], by dsimp only; omega, Nat.le_succ_of_le hol, hmb.mono (Nat.le_succ _), hrun⟩
   · have f1 : decide ((i : Int) < (a.length : Int)) = false := by simpa using hlt
     obtain rfl : mm = 0 := by omega
     have h0 : some out = R := hrun
     subst h0
     rcases List.eq_nil_or_concat out with ho2 | ⟨l, m, ho2⟩
     · subst ho2
       simp only [mtF_nil, mtS_nil, f1, deepD, AV.toL, List.length_nil, List.flatten_cons, List.flatten_nil, Nat.one_mul, ↓Both_true, ↓Both_false, wx, reduceCtorEq, reduceIte, Nat.reduceAdd, Nat.reduceEqDiff, Nat.reduceLT, Nat.reduceLeDiff, wj, ← List.map_take, ← List.map_drop]
     · rw [List.concat_eq_append] at ho2
       subst ho2
       have r4 := mtA_len (l ++ [m])
       simp only [mtF_succ, mtS_snoc, f1, r4, deepD, mapO_mt, dMts, ↓Both_true, ↓Both_false, wx, reduceCtorEq, reduceIte, Nat.reduceAdd, Nat.reduceEqDiff, Nat.reduceLT, Nat.reduceLeDiff, wj, ← List.map_take, ← List.map_drop]
       have h5 := mtA_deep (l ++ [m])
       rw [List.length_append] at h5
       exact ⟨congrArg (fun z => Go.Ab.D.tup [.sl 3 z, .sc (.bool true)]) h5, fun h => absurd h (by simp)⟩
theorem linMatches_fn {old new : Gr} (ho : GrOk old) (hn : GrOk new) {a b : List Nat} (ha : ∀ j ∈ a, j < old.lines.length) (hb : ∀ j ∈ b, j < new.lines.length) (hal : a.length ≤ 1000000) (hbl : b.length ≤ 1000000) (hbn : b.Nodup) (hln : linesOk new.lines = true) :
   AFn Tryz.prog 56 [dGraph old, dGraph new, dNats a, dNats b] (.tup [dMts ((mGo (fM old new a b) (List.range' 0 a.length) (-1) []).getD []), .sc (.bool (mGo (fM old new a b) (List.range' 0 a.length) (-1) []).isSome)]) :=
 AFn_of' ((linMatches_K ho hn ha hb hal hbl hbn hln).mono fun _ _ h => h.1)
theorem linMatches_nil {old new : Gr} (ho : GrOk old) (hn : GrOk new) {a b : List Nat} (ha : ∀ j ∈ a, j < old.lines.length) (hb : ∀ j ∈ b, j < new.lines.length) (hal : a.length ≤ 1000000) (hbl : b.length ≤ 1000000) (hbn : b.Nodup) (hln : linesOk new.lines = true)
   (h0 : mGo (fM old new a b) (List.range' 0 a.length) (-1) [] = some []) (s : List AObj) : FnK Tryz.prog 56 [.d (dGraph old), .d (dGraph new), .d (dNats a), .d (dNats b)] s fun d s' => d = .tup [.nil 3, .d (.sc (.bool true))] ∧ ∃ J, s' = s ++ J := by
 obtain ⟨d, s', h1, _, h2⟩ := linMatches_K ho hn ha hb hal hbl hbn hln
 refine ⟨_, _, FnRuns.frame h1 rfl s, ?_, _, rfl⟩
 rw [h2 h0]; rfl
end Go.Proofs.Lh

namespace Go.Proofs.Lh
open Go Go.Bb Go.RowKit Go.Proofs.Lg
def hunksR (old new : Gr) : List Hk × Int :=
 if old.check ≠ 0 then ([], old.check) else if new.check ≠ 0 then ([], new.check)
 else if (regionsL old.reach old.living).any Reg.conflict = true ∨ (regionsL new.reach new.living).any Reg.conflict = true then ([], 15)
 else match mGo (fM old new (seqL old.reach old.living) (seqL new.reach new.living)) (List.range' 0 (seqL old.reach old.living).length) (-1) [] with
   | none => ([], 9)
   | some l => (hGo (txtL old.lines (seqL old.reach old.living)) (txtL new.lines (seqL new.reach new.living)) 0 0 l, 0)
theorem seq_facts {g : Gr} (hg : GrOk g) : (∀ j ∈ seqL g.reach g.living, j < g.lines.length) ∧ (seqL g.reach g.living).length ≤ 1000000 ∧ (seqL g.reach g.living).Nodup := by
 have hp := seqL_perm g.lv
 refine ⟨fun j hj => ?_, by rw [hp.length_eq]; have := g.living_len; have := hg.few; omega, hp.nodup_iff.2 g.living_nd⟩
 have h1 := g.living_lt j (hp.mem_iff.1 hj)
 have h2 := g.dim_le
 omega
theorem linesOk_of_check {g : Gr} (h : g.check = 0) : linesOk g.lines = true := (Gr.check_ok h).1
theorem FnRuns.ofD {f : FuncId} {ds : List Go.Ab.D} {s s' : List AObj} {d : AV} (h : FnRuns (LLc Tryz.prog) Tryz.prog f (ds.map .d) s d s') {xs : List AV} (hx : toDs xs = some ds) : FnRuns (LLc Tryz.prog) Tryz.prog f xs s d s' := by
 refine ⟨h.enters, fun B k w vs hst hvs => ?_⟩
 obtain ⟨l1, l2⟩ := toDs_get hx
 refine h.calls B k w vs hst ⟨by rw [hvs.1, List.length_map, l1], fun i v c hv hc => ?_⟩
 rw [List.getElem?_map] at hc
 obtain ⟨y, hy, rfl⟩ := Option.map_eq_some_iff.1 hc
 obtain ⟨x, h1, h2⟩ := l2 i y hy
 exact .d ((hvs.2 i v x hv h1).toD h2)
theorem FnK.ofD {f : FuncId} {ds : List Go.Ab.D} {s : List AObj} {K : AV → List AObj → Prop} (h : FnK Tryz.prog f (ds.map .d) s K) {xs : List AV} (hx : toDs xs = some ds) : FnK Tryz.prog f xs s K :=
 let ⟨d, s', h1, h2⟩ := h; ⟨d, s', FnRuns.ofD h1 hx, h2⟩
theorem mGo_len {f : Nat → Option Nat} : ∀ (is : List Nat) (last : Int) (out l : List Mt), mGo f is last out = some l → l.length ≤ out.length + is.length
 | [], last, out, l, h => by simp [mGo] at h; subst h; simp
 | i :: is, last, out, l, h => by
   rw [mGo] at h
   cases hfi : f i with
   | none => rw [hfi] at h; have := mGo_len is last out l h; rw [List.length_cons]; omega
   | some k =>
     rw [hfi] at h
     dsimp only at h
     split at h
     · cases h
     · have := mGo_len is k _ l h
       have := (mPut_len out i k).1
       rw [List.length_cons]; omega
theorem txtL_get {ls : List Vtx} {l : List Nat} {i p : Nat} {x : Vtx} (h1 : l[i]? = some p) (h2 : ls[p]? = some x) : (txtL ls l)[i]? = some x.text := by
 unfold txtL
 rw [List.getElem?_map, h1, Option.map_some]
 unfold txt
 rw [h2]
theorem fM_from {old new : Gr} {a b : List Nat} {l : List Mt} (h : mGo (fM old new a b) (List.range' 0 a.length) (-1) [] = some l) : MFrom (txtL old.lines a) (txtL new.lines b) 0 0 true l := by
 refine mGo_ok (f := fM old new a b) (fun i k hik => ?_) a.length 0 (-1) [] l trivial (Nat.zero_le _) (by simp [mEnd]) (by omega) h
 obtain ⟨p, q, x, y, e1, e2, e3, e4, hs⟩ := fM_spec hik
 rw [txtL_len, txtL_len]
 exact ⟨(List.getElem?_eq_some_iff.1 e1).1, (List.getElem?_eq_some_iff.1 e2).1, by rw [txtL_get e1 e3, txtL_get e2 e4, hs.2.2]⟩
set_option maxRecDepth 10000 in
set_option maxHeartbeats 1000000 in
theorem linHunks_fn {old new : Gr} (ho : GrOk old) (hn : GrOk new) : AFn Tryz.prog 20 [dGraph old, dGraph new] (.tup [dHks (hunksR old new).1, .sc (.int .i64 (hunksR old new).2)]) := by
 have hc1 := Check_fn ho
 have hc2 := Check_fn hn
 have hl1 := linClean_fn ho
 have hl2 := linClean_fn hn
 have hs1 := linSequence_fn ho
 have hs2 := linSequence_fn hn
 obtain ⟨a1, a2, a3⟩ := seq_facts ho
 obtain ⟨b1, b2, b3⟩ := seq_facts hn
 have ht1 := (linTexts_fn ho a1 a2)
 have ht2 := (linTexts_fn hn b1 b2)
 refine AFn_of (F := k_linHunks) (okb_linHunks.trans (by kernel_rfl)) (by simp [k_linHunks]) ?_
 simp only [k_linHunks, dGraph, ↓Both_true, ↓Both_false, wx, reduceCtorEq, reduceIte, Nat.reduceAdd, Nat.reduceEqDiff, Nat.reduceLT, Nat.reduceLeDiff]
 refine CallM.data hc1 rfl ?_
 by_cases q1 : old.check = 0
 · have q1' : (old.check != 0) = false := by simp [q1]
   simp only [dGraph, q1', ↓Both_true, ↓Both_false, wx, reduceCtorEq, reduceIte, Nat.reduceAdd, Nat.reduceEqDiff, Nat.reduceLT, Nat.reduceLeDiff]
   refine CallM.data hc2 rfl ?_
   by_cases q2 : new.check = 0
   · have q2' : (new.check != 0) = false := by simp [q2]
     simp only [dGraph, q1', q2', ↓Both_true, ↓Both_false, wx, reduceCtorEq, reduceIte, Nat.reduceAdd, Nat.reduceEqDiff, Nat.reduceLT, Nat.reduceLeDiff]
     refine CallM.data hl1 rfl ?_
     cases q3 : (regionsL old.reach old.living).any Reg.conflict with
     | true =>
       have hr : hunksR old new = ([], 15) := by unfold hunksR; rw [if_neg (by simp [q1]), if_neg (by simp [q2]), if_pos (.inl q3)]
       simp only [dGraph, q1', q2', hr, dBool, dHks, deepD, ↓Both_true, ↓Both_false, wx, reduceCtorEq, reduceIte, Nat.reduceAdd, Nat.reduceEqDiff, Nat.reduceLT, Nat.reduceLeDiff]
     | false =>
       simp only [dGraph, q1', q2', dBool, ↓Both_true, ↓Both_false, wx, reduceCtorEq, reduceIte, Nat.reduceAdd, Nat.reduceEqDiff, Nat.reduceLT, Nat.reduceLeDiff]
       refine CallM.data hl2 rfl ?_
       cases q4 : (regionsL new.reach new.living).any Reg.conflict with
       | true =>
         have hr : hunksR old new = ([], 15) := by unfold hunksR; rw [if_neg (by simp [q1]), if_neg (by simp [q2]), if_pos (.inr q4)]
         simp only [dGraph, q1', q2', hr, dBool, dHks, deepD, ↓Both_true, ↓Both_false, wx, reduceCtorEq, reduceIte, Nat.reduceAdd, Nat.reduceEqDiff, Nat.reduceLT, Nat.reduceLeDiff]
       | false =>
         have h22 : 2 ≤ 2 := Nat.le_refl _
         simp only [dGraph, q1', q2', dBool, h22, ↓Both_true, ↓Both_false, wx, reduceCtorEq, reduceIte, Nat.reduceAdd, Nat.reduceEqDiff, Nat.reduceLT, Nat.reduceLeDiff]
         refine CallM.data hs1 rfl ?_
         simp only [dGraph, q1', q2', dBool, h22, ↓Both_true, ↓Both_false, wx, reduceCtorEq, reduceIte, Nat.reduceAdd, Nat.reduceEqDiff, Nat.reduceLT, Nat.reduceLeDiff]
         refine CallM.data hs2 rfl ?_
         simp only [dGraph, q1', q2', dBool, h22, ↓Both_true, ↓Both_false, wx, reduceCtorEq, reduceIte, Nat.reduceAdd, Nat.reduceEqDiff, Nat.reduceLT, Nat.reduceLeDiff]
         refine ⟨(ordF_coarse (by simp only [List.map_cons, List.map_nil, coarse_rd, coarse_wr]; rfl)), ?_⟩
         have hlo := linesOk_of_check q1
         have hln := linesOk_of_check q2
         cases hR : mGo (fM old new (seqL old.reach old.living) (seqL new.reach new.living)) (List.range' 0 (seqL old.reach old.living).length) (-1) [] with
         | none =>
           have hr : hunksR old new = ([], 9) := by unfold hunksR; rw [if_neg (by simp [q1]), if_neg (by simp [q2]), if_neg (by simp [q3, q4]), hR]
           have hm := linMatches_fn ho hn a1 b1 a2 b2 b3 hln
           rw [hR] at hm
           refine CallM.data hm rfl ?_
           simp only [dGraph, q1', q2', dBool, h22, hr, Option.getD_none, Option.isSome_none, dHks, deepD, ↓Both_true, ↓Both_false, wx, reduceCtorEq, reduceIte, Nat.reduceAdd, Nat.reduceEqDiff, Nat.reduceLT, Nat.reduceLeDiff]
         | some l =>
           have hr : hunksR old new = (hGo (txtL old.lines (seqL old.reach old.living)) (txtL new.lines (seqL new.reach new.living)) 0 0 l, 0) := by unfold hunksR; rw [if_neg (by simp [q1]), if_neg (by simp [q2]), if_neg (by simp [q3, q4]), hR]
           have hml := mGo_len _ _ _ _ hR
           rw [List.length_range', List.length_nil, Nat.zero_add] at hml
           have hof := fun v hv => hunksOf_K (txtL old.lines (seqL old.reach old.living)) (txtL new.lines (seqL new.reach new.living)) l v hv (fM_from hR) (by rw [txtL_len]; exact a2) (by rw [txtL_len]; exact b2) (by omega)
           by_cases hl0 : l = []
           · subst hl0
             obtain ⟨d, s', k1, k2⟩ := hof (.nil 3) (.inl ⟨rfl, rfl⟩)
             refine CallM.fn ?_
             refine FnK.mono (FnK.ofD (ds := [dGraph old, dGraph new, dNats (seqL old.reach old.living), dNats (seqL new.reach new.living)]) (linMatches_nil ho hn a1 b1 a2 b2 b3 hln hR _) rfl) ?_
             rintro _ _ ⟨rfl, J, rfl⟩
             simp only [dGraph, q1', q2', dBool, Option.getD_none, Option.isSome_none, dHks, deepD, hr, h22, ↓Both_true, ↓Both_false, wx, reduceCtorEq, reduceIte, Nat.reduceAdd, Nat.reduceEqDiff, Nat.reduceLT, Nat.reduceLeDiff]
             refine CallM.data ht1 rfl ?_
             simp only [dGraph, q1', q2', dBool, Option.getD_none, Option.isSome_none, dHks, deepD, hr, h22, ↓Both_true, ↓Both_false, wx, reduceCtorEq, reduceIte, Nat.reduceAdd, Nat.reduceEqDiff, Nat.reduceLT, Nat.reduceLeDiff]
             refine CallM.data ht2 rfl ?_
             simp only [dGraph, q1', q2', dBool, Option.getD_none, Option.isSome_none, dHks, deepD, hr, h22, ↓Both_true, ↓Both_false, wx, reduceCtorEq, reduceIte, Nat.reduceAdd, Nat.reduceEqDiff, Nat.reduceLT, Nat.reduceLeDiff]
             refine CallM.run (FnRuns.frameD k1 rfl k2 _) ?_
             simp only [dGraph, q1', q2', dBool, Option.getD_none, Option.isSome_none, dHks, hr, h22, deepD, AV.toL, ↓Both_true, ↓Both_false, wx, reduceCtorEq, reduceIte, Nat.reduceAdd, Nat.reduceEqDiff, Nat.reduceLT, Nat.reduceLeDiff]
             exact (ordF_coarse (by simp only [List.map_cons, List.map_nil, coarse_rd, coarse_wr]; rfl))
           · obtain ⟨d, s', k1, k2⟩ := hof (.d (dMts l)) (.inr ⟨hl0, rfl⟩)
             have hm := linMatches_fn ho hn a1 b1 a2 b2 b3 hln
             rw [hR] at hm
             refine CallM.data hm rfl ?_
             simp only [dGraph, q1', q2', dBool, Option.getD_none, Option.isSome_none, dHks, deepD, AV.toL, hr, h22, Option.getD_some, Option.isSome_some, ↓Both_true, ↓Both_false, wx, reduceCtorEq, reduceIte, Nat.reduceAdd, Nat.reduceEqDiff, Nat.reduceLT, Nat.reduceLeDiff]
             refine CallM.data ht1 rfl ?_
             simp only [dGraph, q1', q2', dBool, Option.getD_none, Option.isSome_none, dHks, deepD, AV.toL, hr, Option.getD_some, Option.isSome_some, h22, ↓Both_true, ↓Both_false, wx, reduceCtorEq, reduceIte, Nat.reduceAdd, Nat.reduceEqDiff, Nat.reduceLT, Nat.reduceLeDiff]
             refine CallM.data ht2 rfl ?_
             simp only [dGraph, q1', q2', dBool, Option.getD_none, Option.isSome_none, dHks, deepD, AV.toL, hr, Option.getD_some, Option.isSome_some, h22, ↓Both_true, ↓Both_false, wx, reduceCtorEq, reduceIte, Nat.reduceAdd, Nat.reduceEqDiff, Nat.reduceLT, Nat.reduceLeDiff]
             refine CallM.run (FnRuns.frameD k1 rfl k2 _) ?_
             simp only [dGraph, q1', q2', dBool, Option.getD_none, Option.isSome_none, dHks, hr, Option.getD_some, Option.isSome_some, h22, deepD, AV.toL, ↓Both_true, ↓Both_false, wx, reduceCtorEq, reduceIte, Nat.reduceAdd, Nat.reduceEqDiff, Nat.reduceLT, Nat.reduceLeDiff]
             exact (ordF_coarse (by simp only [List.map_cons, List.map_nil, coarse_rd, coarse_wr]; rfl))
   · have q2' : (new.check != 0) = true := by simpa using q2
     have hr : hunksR old new = ([], new.check) := by unfold hunksR; rw [if_neg (by simp [q1]), if_pos q2]
     simp only [q2', hr, dHks, deepD, ↓Both_true, ↓Both_false, wx, reduceCtorEq, reduceIte, Nat.reduceAdd, Nat.reduceEqDiff, Nat.reduceLT, Nat.reduceLeDiff]
 · have q1' : (old.check != 0) = true := by simpa using q1
   have hr : hunksR old new = ([], old.check) := by unfold hunksR; rw [if_pos q1]
   simp only [q1', hr, dHks, deepD, ↓Both_true, ↓Both_false, wx, reduceCtorEq, reduceIte, Nat.reduceAdd, Nat.reduceEqDiff, Nat.reduceLT, Nat.reduceLeDiff]
end Go.Proofs.Lh
