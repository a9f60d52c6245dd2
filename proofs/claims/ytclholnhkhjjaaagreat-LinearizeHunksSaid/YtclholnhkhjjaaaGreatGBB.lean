/-
  Part GBB of this claim's proof. Joined by merge.py from the texts of wip/tpl.
-/
import Derived.Test.YtclholnhkhjjaaaGreatGBA
import Derived.Test.YtclholnhkhjjaaaGreatGAT
set_option linter.unusedVariables false
set_option linter.unusedSimpArgs false
set_option linter.unnecessarySimpa false
namespace Go.Proofs.Lh
open Go Go.Bb Go.RowKit Go.Proofs.Lg
def hkF (id : Nat) (out : List Hk) : AV := if out = [] then .nil 3 else .tsl id 3 (out.map dHk)
theorem hkF_nil (id : Nat) : hkF id [] = .nil 3 := rfl
theorem hkF_ne {id : Nat} {out : List Hk} (h : out ≠ []) : hkF id out = .tsl id 3 (out.map dHk) := if_neg h
theorem hkF_d (s : List AObj) (n id : Nat) (out : List Hk) : deepD s (n + 1) (hkF id out) = some (dHks out) := by
 unfold hkF
 by_cases h : out = []
 · rw [if_pos h, h]; rfl
 · rw [if_neg h]; rfl
def mEndL (a b : List ByteArray) (l : List Mt) : List Mt := l ++ [⟨a.length, b.length, 0⟩]
def hEnd (a b : List ByteArray) : Nat → Nat → List Mt → List Hk
 | _, _, [] => []
 | i, k, m :: l => hOne a b i k m.a m.b ++ hEnd a b (m.a + m.len) (m.b + m.len) l
theorem hEnd_eq (a b : List ByteArray) : ∀ (l : List Mt) (i k : Nat), hEnd a b i k (mEndL a b l) = hGo a b i k l
 | [], i, k => by rw [hGo_nil]; exact List.append_nil _
 | m :: l, i, k => by
   rw [mEndL, List.cons_append, hEnd, hGo_cons]
   exact congrArg _ (hEnd_eq a b l _ _)
def MIn (a b : List ByteArray) : Nat → Nat → List Mt → Prop
 | _, _, [] => True
 | x, y, m :: l => x ≤ m.a ∧ y ≤ m.b ∧ m.a + m.len ≤ a.length ∧ m.b + m.len ≤ b.length ∧ MIn a b (m.a + m.len) (m.b + m.len) l
theorem MIn_end (a b : List ByteArray) : ∀ (l : List Mt) (x y : Nat) (f : Bool), x ≤ a.length → y ≤ b.length → MFrom a b x y f l → MIn a b x y (mEndL a b l)
 | [], _, _, _, h1, h2, _ => ⟨h1, h2, Nat.le_refl _, Nat.le_refl _, trivial⟩
 | _ :: l, _, _, _, _, _, ⟨⟨_, o2, o3, _⟩, m1, m2, _, m4⟩ => ⟨m1, m2, o2, o3, MIn_end a b l _ _ _ o2 o3 m4⟩
set_option maxRecDepth 10000 in
set_option maxHeartbeats 2000000 in
theorem hunksOf_K (a b : List ByteArray) (l : List Mt) (v : AV) (hv : (l = [] ∧ v = .nil 3) ∨ (l ≠ [] ∧ v = .d (dMts l))) (h : MFrom a b 0 0 true l) (ha : a.length ≤ 1000000) (hb : b.length ≤ 1000000) (hl : l.length ≤ 1000000) :
   FnK Tryz.prog 57 [.d (dStrs a), .d (dStrs b), v] [] fun d s => deepD s 5 d = some (.tup [dHks (hGo a b 0 0 l), .sc (.int .i64 0)]) := by
 have hck := myersCheck_fn a b l h ha hb hl
 have q1 : ((0 : Int) != 0) = false := by decide
 have hI := MIn_end a b l 0 0 true (Nat.zero_le _) (Nat.zero_le _) h
 rw [← hEnd_eq]
 have hel : (mEndL a b l).length = l.length + 1 := by simp [mEndL]
 clear h
 refine FnK.of (F := k_hunksOf) (okb_hunksOf.trans (by kernel_rfl)) (by simp [k_hunksOf]) ?_
 simp only [k_hunksOf, dStrs, ↓Both_true, ↓Both_false, wx, reduceCtorEq, reduceIte, Nat.reduceAdd, Nat.reduceEqDiff, Nat.reduceLT, Nat.reduceLeDiff, wj, ← List.map_take, ← List.map_drop]
 refine CallM.data hck (by rcases hv with ⟨rfl, rfl⟩ | ⟨_, rfl⟩ <;> rfl) ?_
 simp only [dStrs, q1, ↓Both_true, ↓Both_false, wx, reduceCtorEq, reduceIte, Nat.reduceAdd, Nat.reduceEqDiff, Nat.reduceLT, Nat.reduceLeDiff, wj, ← List.map_take, ← List.map_drop]
 refine CallM.fn ?_
 generalize hR : hEnd a b 0 0 (mEndL a b l) = R
 rcases hv with ⟨hl0, rfl⟩ | ⟨hl0, rfl⟩
 case' inl =>
   refine FnK.mono (CloneMatches_nil []) ?_
   rintro d s' ⟨rfl, rfl⟩
   have c1 : roomOk 1 24 = true := by decide
   obtain ⟨idc, hidc⟩ : ∃ n : Nat, n = 1 := ⟨_, rfl⟩
   simp only [dStrs, q1, c1, ↓Both_true, ↓Both_false, wx, reduceCtorEq, reduceIte, Nat.reduceAdd, Nat.reduceEqDiff, Nat.reduceLT, Nat.reduceLeDiff, wj, ← List.map_take, ← List.map_drop]
   obtain ⟨LL, rfl⟩ : ∃ LL : List Mt, LL = l := ⟨_, rfl⟩
   have hLL := hl0
 case' inr =>
   obtain ⟨m0, l0, rfl⟩ : ∃ m0 l0, l = m0 :: l0 := by cases l with | nil => exact absurd rfl hl0 | cons m l => exact ⟨m, l, rfl⟩
   refine FnK.mono (CloneMatches_cons m0 l0 (by simp at hl; omega) []) ?_
   rintro d s' ⟨rfl, rfl⟩
   have c1 : roomOk (l0.length + 1 + 1) 24 = true := by simp [roomOk] at hl ⊢; omega
   obtain ⟨idc, hidc⟩ : ∃ n : Nat, n = 0 := ⟨_, rfl⟩
   simp only [dStrs, q1, c1, ↓Both_true, ↓Both_false, wx, reduceCtorEq, reduceIte, Nat.reduceAdd, Nat.reduceEqDiff, Nat.reduceLT, Nat.reduceLeDiff, wj, ← List.map_take, ← List.map_drop]
   obtain ⟨LL, hLL⟩ : ∃ LL : List Mt, LL = m0 :: l0 := ⟨_, rfl⟩
   rw [← hLL] at hR hI hel hl
 all_goals (
   refine LoopK.at (fun s : Nat × Nat × Nat × List Hk × Nat × List AObj => [(31, .d (.sc (.int .i64 s.1))), (30, .d (.sc (.int .i64 ((mEndL a b LL).length : Nat)))), (29, .tsl idc 3 ((mEndL a b LL).map dMt)), (10, .d (.sc (.int .i64 s.2.1))), (11, .d (.sc (.int .i64 s.2.2.1))), (9, hkF s.2.2.2.2.1 s.2.2.2.1), (0, .d (.sl 1 (a.map strow))), (1, .d (.sl 1 (b.map strow)))])
     (fun s => s.2.2.2.2.2)
     (fun mm s => mm + s.1 = (mEndL a b LL).length ∧ s.2.2.2.1.length ≤ s.1 ∧ MIn a b s.2.1 s.2.2.1 ((mEndL a b LL).drop s.1) ∧ s.2.2.2.1 ++ hEnd a b s.2.1 s.2.2.1 ((mEndL a b LL).drop s.1) = R ∧ (s.2.2.2.1 ≠ [] → s.2.2.2.2.2[s.2.2.2.2.1]? = some (.row 109 3 s.2.2.2.1.length)))
     (mEndL a b LL).length (0, 0, 0, [], 0, _) (by simp [SubB, Go.Bb.look, intD, hidc, hkF, hLL, mEndL, dMt]) rfl ⟨rfl, Nat.le_refl _, hI, hR, fun h => absurd rfl h⟩ ?_
   rintro mm ⟨j, i, k, out, id, L⟩ ⟨hm, hol, hin, hout, hrow⟩
   dsimp only at hm hol hin hout hrow ⊢
   by_cases hlt : j < (mEndL a b LL).length
   · have f1 : decide ((j : Int) < ((mEndL a b LL).length : Int)) = true := by simpa using hlt
     have f2 : (mEndL a b LL)[j]? = some (mEndL a b LL)[j] := List.getElem?_eq_getElem hlt
     have f3 : IntKind.i64.wrap ((j : Int) + 1) = ((j + 1 : Nat) : Int) := wrapN (by omega) (by omega)
     have hd : (mEndL a b LL).drop j = (mEndL a b LL)[j] :: (mEndL a b LL).drop (j + 1) := List.drop_eq_getElem_cons hlt
     rw [hd] at hin hout
     generalize (mEndL a b LL)[j] = m at f2 hin hout
     clear hd
     obtain ⟨x, y, n⟩ := m
     obtain ⟨n1, n2, n3, n4, hin⟩ := hin
     rw [hEnd] at hout
     dsimp only at n1 n2 n3 n4 hin hout
     have hmm : mm - 1 < mm ∧ mm - 1 + (j + 1) = (mEndL a b LL).length := cntA hm hlt
     have g1 : IntKind.i64.wrap ((x : Int) + (n : Int)) = ((x + n : Nat) : Int) := addN (by omega) (by omega)
     have g2 : IntKind.i64.wrap ((y : Int) + (n : Int)) = ((y + n : Nat) : Int) := addN (by omega) (by omega)
     have i1 : (i : Int) ≤ (x : Int) := by omega
     have i2 : (x : Int) ≤ (a.length : Int) := by omega
     have i3 : (k : Int) ≤ (y : Int) := by omega
     have i4 : (y : Int) ≤ (b.length : Int) := by omega
     have r33 : 3 ≤ 3 := Nat.le_refl _
     have hca := CloneStrings_fn ((a.take x).drop i) (by rw [List.length_drop, List.length_take]; omega)
     have hcb := CloneStrings_fn ((b.take y).drop k) (by rw [List.length_drop, List.length_take]; omega)
     have hone : (x > i ∨ y > k) → hOne a b i k x y = [⟨i, (a.take x).drop i, (b.take y).drop k⟩] := fun hc => if_pos hc
     have hnone : ¬ (x > i ∨ y > k) → hOne a b i k x y = [] := fun hc => if_neg hc
     have hro : roomOk (out.length + 1) 56 = true := by simp [roomOk]; omega
     have hro1 : roomOk 1 56 = true := by decide
     have hcase : (decide (i < x) = true ∧ (x > i ∨ y > k)) ∨ (decide (i < x) = false ∧ decide (k < y) = true ∧ (x > i ∨ y > k)) ∨ (decide (i < x) = false ∧ decide (k < y) = false ∧ ¬ (x > i ∨ y > k)) := by
       by_cases e1 : i < x
       · exact .inl ⟨by simpa using e1, .inl e1⟩
       · by_cases e2 : k < y
         · exact .inr (.inl ⟨by simpa using e1, by simpa using e2, .inr e2⟩)
         · exact .inr (.inr ⟨by simpa using e1, by simpa using e2, by omega⟩)
     clear hm hlt
     by_cases ho : out = []
     · subst ho
       rw [hkF_nil]
       rcases hcase with ⟨e1, e3⟩ | ⟨e1, e2, e3⟩ | ⟨e1, e2, e3⟩
       · simp only [f1, f2, e1, gtN, r33, i1, i2, i3, i4, dMt, ↓Both_true, ↓Both_false, wx, reduceCtorEq, reduceIte, Nat.reduceAdd, Nat.reduceEqDiff, Nat.reduceLT, Nat.reduceLeDiff, wj, ← List.map_take, ← List.map_drop]
         refine CallM.data hca rfl ?_
         simp only [f1, f2, e1, gtN, r33, i1, i2, i3, i4, dMt, ↓Both_true, ↓Both_false, wx, reduceCtorEq, reduceIte, Nat.reduceAdd, Nat.reduceEqDiff, Nat.reduceLT, Nat.reduceLeDiff, wj, ← List.map_take, ← List.map_drop]
         refine CallM.data hcb rfl ?_
         simp only [f1, f2, f3, e1, gtN, r33, i1, i2, i3, i4, g1, g2, hro1, dMt, dStrs, ↓Both_true, ↓Both_false, wx, reduceCtorEq, reduceIte, Nat.reduceAdd, Nat.reduceEqDiff, Nat.reduceLT, Nat.reduceLeDiff, wj, ← List.map_take, ← List.map_drop]
         exact ⟨(ordF_coarse (by simp only [List.map_cons, List.map_nil, coarse_rd, coarse_wr]; rfl)), (ordF_coarse (by simp only [List.map_cons, List.map_nil, coarse_rd, coarse_wr]; rfl)), mm - 1, (j + 1, x + n, y + n, [⟨i, (a.take x).drop i, (b.take y).drop k⟩], L.length + 2, L ++ [.cells [.d (.sc (.int .i64 x)), .d (.sc (.int .i64 y)), .d (.sc (.int .i64 n))], .row 109 3 1, .row 109 3 1]), hmm.1, ⟨rfl, rfl, rfl, rfl⟩, rfl, hmm.2, by dsimp only [List.length_cons, List.length_nil]; omega, hin, by rw [hone e3] at hout; exact hout, fun _ => by dsimp only; rw [getJn]; rfl⟩
       · simp only [f1, f2, e1, e2, gtN, r33, i1, i2, i3, i4, dMt, ↓Both_true, ↓Both_false, wx, reduceCtorEq, reduceIte, Nat.reduceAdd, Nat.reduceEqDiff, Nat.reduceLT, Nat.reduceLeDiff, wj, ← List.map_take, ← List.map_drop]
         refine CallM.data hca rfl ?_
         simp only [f1, f2, e1, e2, gtN, r33, i1, i2, i3, i4, dMt, ↓Both_true, ↓Both_false, wx, reduceCtorEq, reduceIte, Nat.reduceAdd, Nat.reduceEqDiff, Nat.reduceLT, Nat.reduceLeDiff, wj, ← List.map_take, ← List.map_drop]
         refine CallM.data hcb rfl ?_
         simp only [f1, f2, f3, e1, e2, gtN, r33, i1, i2, i3, i4, g1, g2, hro1, dMt, dStrs, ↓Both_true, ↓Both_false, wx, reduceCtorEq, reduceIte, Nat.reduceAdd, Nat.reduceEqDiff, Nat.reduceLT, Nat.reduceLeDiff, wj, ← List.map_take, ← List.map_drop]
         exact ⟨(ordF_coarse (by simp only [List.map_cons, List.map_nil, coarse_rd, coarse_wr]; rfl)), (ordF_coarse (by simp only [List.map_cons, List.map_nil, coarse_rd, coarse_wr]; rfl)), mm - 1, (j + 1, x + n, y + n, [⟨i, (a.take x).drop i, (b.take y).drop k⟩], L.length + 2, L ++ [.cells [.d (.sc (.int .i64 x)), .d (.sc (.int .i64 y)), .d (.sc (.int .i64 n))], .row 109 3 1, .row 109 3 1]), hmm.1, ⟨rfl, rfl, rfl, rfl⟩, rfl, hmm.2, by dsimp only [List.length_cons, List.length_nil]; omega, hin, by rw [hone e3] at hout; exact hout, fun _ => by dsimp only; rw [getJn]; rfl⟩
       · simp only [f1, f2, f3, e1, e2, gtN, r33, i1, i2, i3, i4, g1, g2, dMt, dStrs, ↓Both_true, ↓Both_false, wx, reduceCtorEq, reduceIte, Nat.reduceAdd, Nat.reduceEqDiff, Nat.reduceLT, Nat.reduceLeDiff, wj, ← List.map_take, ← List.map_drop]
         exact ⟨(ordF_coarse (by simp only [List.map_cons, List.map_nil, coarse_rd, coarse_wr]; rfl)), mm - 1, (j + 1, x + n, y + n, [], 0, L ++ [.cells [.d (.sc (.int .i64 x)), .d (.sc (.int .i64 y)), .d (.sc (.int .i64 n))]]), hmm.1, ⟨rfl, rfl, rfl, rfl⟩, rfl, hmm.2, Nat.zero_le _, hin, by rw [hnone e3] at hout; exact hout, fun h => absurd rfl h⟩
     · rw [hkF_ne ho]
       have hLX : ∀ K, (L ++ K)[id]? = some (.row 109 3 out.length) := fun K => by rw [List.getElem?_append_left (List.getElem?_eq_some_iff.1 (hrow ho)).1]; exact hrow ho
       have hLS : ∀ (K : List AObj) (z : AObj), (L ++ K).set id z = L.set id z ++ K := fun K z => List.set_append_left _ _ (List.getElem?_eq_some_iff.1 (hrow ho)).1
       have hidl : id < L.length := (List.getElem?_eq_some_iff.1 (hrow ho)).1
       have hLG : ∀ (z : AObj) (K : List AObj), (L.set id z ++ K)[L.length]? = K[0]? := fun z K => by
         have := getJ0 (L.set id z) K
         rwa [List.length_set] at this
       rcases hcase with ⟨e1, e3⟩ | ⟨e1, e2, e3⟩ | ⟨e1, e2, e3⟩
       · simp only [f1, f2, e1, gtN, r33, i1, i2, i3, i4, dMt, ↓Both_true, ↓Both_false, wx, reduceCtorEq, reduceIte, Nat.reduceAdd, Nat.reduceEqDiff, Nat.reduceLT, Nat.reduceLeDiff, wj, ← List.map_take, ← List.map_drop]
         refine CallM.data hca rfl ?_
         simp only [f1, f2, e1, gtN, r33, i1, i2, i3, i4, dMt, ↓Both_true, ↓Both_false, wx, reduceCtorEq, reduceIte, Nat.reduceAdd, Nat.reduceEqDiff, Nat.reduceLT, Nat.reduceLeDiff, wj, ← List.map_take, ← List.map_drop]
         refine CallM.data hcb rfl ?_
         simp only [f1, f2, f3, e1, gtN, r33, i1, i2, i3, i4, g1, g2, hro, hLX, hLS, hLG, dMt, dStrs, ↓Both_true, ↓Both_false, wx, reduceCtorEq, reduceIte, Nat.reduceAdd, Nat.reduceEqDiff, Nat.reduceLT, Nat.reduceLeDiff, wj, ← List.map_take, ← List.map_drop]
         refine ⟨(ordF_coarse (by simp only [List.map_cons, List.map_nil, coarse_rd, coarse_wr]; rfl)), (ordF_coarse (by simp only [List.map_cons, List.map_nil, coarse_rd, coarse_wr]; rfl)), mm - 1, (j + 1, x + n, y + n, out ++ [⟨i, (a.take x).drop i, (b.take y).drop k⟩], id, L.set id (.row 109 3 (out.length + 1)) ++ [.cells [.d (.sc (.int .i64 x)), .d (.sc (.int .i64 y)), .d (.sc (.int .i64 n))], .row 109 3 1]), hmm.1, ⟨rfl, rfl, rfl, ?_⟩, rfl, hmm.2, by dsimp only; rw [List.length_append]; simp; omega, hin, by rw [hone e3] at hout; rw [← List.append_assoc] at hout; exact hout, fun _ => ?_⟩
         · dsimp only; rw [hkF_ne (by simp), List.map_append]; rfl
         · dsimp only
           rw [List.getElem?_append_left (by rw [List.length_set]; exact hidl), List.getElem?_set_self hidl, List.length_append]; rfl
       · simp only [f1, f2, e1, e2, gtN, r33, i1, i2, i3, i4, dMt, ↓Both_true, ↓Both_false, wx, reduceCtorEq, reduceIte, Nat.reduceAdd, Nat.reduceEqDiff, Nat.reduceLT, Nat.reduceLeDiff, wj, ← List.map_take, ← List.map_drop]
         refine CallM.data hca rfl ?_
         simp only [f1, f2, e1, e2, gtN, r33, i1, i2, i3, i4, dMt, ↓Both_true, ↓Both_false, wx, reduceCtorEq, reduceIte, Nat.reduceAdd, Nat.reduceEqDiff, Nat.reduceLT, Nat.reduceLeDiff, wj, ← List.map_take, ← List.map_drop]
         refine CallM.data hcb rfl ?_
         simp only [f1, f2, f3, e1, e2, gtN, r33, i1, i2, i3, i4, g1, g2, hro, hLX, hLS, hLG, dMt, dStrs, ↓Both_true, ↓Both_false, wx, reduceCtorEq, reduceIte, Nat.reduceAdd, Nat.reduceEqDiff, Nat.reduceLT, Nat.reduceLeDiff, wj, ← List.map_take, ← List.map_drop]
         refine ⟨(ordF_coarse (by simp only [List.map_cons, List.map_nil, coarse_rd, coarse_wr]; rfl)), (ordF_coarse (by simp only [List.map_cons, List.map_nil, coarse_rd, coarse_wr]; rfl)), mm - 1, (j + 1, x + n, y + n, out ++ [⟨i, (a.take x).drop i, (b.take y).drop k⟩], id, L.set id (.row 109 3 (out.length + 1)) ++ [.cells [.d (.sc (.int .i64 x)), .d (.sc (.int .i64 y)), .d (.sc (.int .i64 n))], .row 109 3 1]), hmm.1, ⟨rfl, rfl, rfl, ?_⟩, rfl, hmm.2, by dsimp only; rw [List.length_append]; simp; omega, hin, by rw [hone e3] at hout; rw [← List.append_assoc] at hout; exact hout, fun _ => ?_⟩
         · dsimp only; rw [hkF_ne (by simp), List.map_append]; rfl
         · dsimp only
           rw [List.getElem?_append_left (by rw [List.length_set]; exact hidl), List.getElem?_set_self hidl, List.length_append]; rfl
       · simp only [f1, f2, f3, e1, e2, gtN, r33, i1, i2, i3, i4, g1, g2, dMt, dStrs, ↓Both_true, ↓Both_false, wx, reduceCtorEq, reduceIte, Nat.reduceAdd, Nat.reduceEqDiff, Nat.reduceLT, Nat.reduceLeDiff, wj, ← List.map_take, ← List.map_drop]
         exact ⟨(ordF_coarse (by simp only [List.map_cons, List.map_nil, coarse_rd, coarse_wr]; rfl)), mm - 1, (j + 1, x + n, y + n, out, id, L ++ [.cells [.d (.sc (.int .i64 x)), .d (.sc (.int .i64 y)), .d (.sc (.int .i64 n))]]), hmm.1, ⟨rfl, rfl, rfl, by dsimp only; rw [hkF_ne ho]⟩, rfl, hmm.2, by dsimp only; omega, hin, by rw [hnone e3] at hout; exact hout, fun _ => hLX _⟩
   · have f1 : decide ((j : Int) < ((mEndL a b LL).length : Int)) = false := by simpa using hlt
     have hd : (mEndL a b LL).drop j = [] := List.drop_eq_nil_of_le (by omega)
     rw [hd] at hout
     have hoR : out = R := by rw [← hout]; exact (List.append_nil _).symm
     subst hoR
     have hdd := hkF_d L 3 id out
     simp only [f1, ↓Both_true, ↓Both_false, wx, reduceCtorEq, reduceIte, Nat.reduceAdd, Nat.reduceEqDiff, Nat.reduceLT, Nat.reduceLeDiff, wj, ← List.map_take, ← List.map_drop]
     rw [hdd]
     rfl)
end Go.Proofs.Lh

namespace Go.Proofs.Lh
open Go Go.Bb Go.RowKit Go.Proofs.Lg
def hunksR (old new : Gr) : List Hk × Int :=
 if old.check ≠ 0 then ([], old.check) else if new.check ≠ 0 then ([], new.check)
 else if (regionsL old.reach old.living).any Reg.conflict = true ∨ (regionsL new.reach new.living).any Reg.conflict = true then ([], 15)
 else match mGo (fM old new (seqL old.reach old.living) (seqL new.reach new.living)) (List.range' 0 (seqL old.reach old.living).length) (-1) [] with
   | none => ([], 9)
   | some l => (hGo (txtL old.lines (seqL old.reach old.living)) (txtL new.lines (seqL new.reach new.living)) 0 0 l, 0)
theorem seq_facts {g : Gr} (hg : GrOk g) : (∀ j ∈ seqL g.reach g.living, j < g.lines.length) ∧ (seqL g.reach g.living).length ≤ 1000000 ∧ (seqL g.reach g.living).Nodup := by
 have hp := seqL_perm g.lv
 refine ⟨fun j hj => ?_, by rw [hp.length_eq]; have := g.living_len; have := hg.few; omega, hp.nodup_iff.2 g.living_nd⟩
 have h1 := g.living_lt j (hp.mem_iff.1 hj)
 have h2 := g.dim_le
 omega
theorem linesOk_of_check {g : Gr} (h : g.check = 0) : linesOk g.lines = true := (Gr.check_ok h).1
theorem FnRuns.ofD {f : FuncId} {ds : List Go.Ab.D} {s s' : List AObj} {d : AV} (h : FnRuns (LLc Tryz.prog) Tryz.prog f (ds.map .d) s d s') {xs : List AV} (hx : toDs xs = some ds) : FnRuns (LLc Tryz.prog) Tryz.prog f xs s d s' := by
 refine ⟨h.enters, fun B k w vs hst hvs => ?_⟩
 obtain ⟨l1, l2⟩ := toDs_get hx
 refine h.calls B k w vs hst ⟨by rw [hvs.1, List.length_map, l1], fun i v c hv hc => ?_⟩
 rw [List.getElem?_map] at hc
 obtain ⟨y, hy, rfl⟩ := Option.map_eq_some_iff.1 hc
 obtain ⟨x, h1, h2⟩ := l2 i y hy
 exact .d ((hvs.2 i v x hv h1).toD h2)
theorem FnK.ofD {f : FuncId} {ds : List Go.Ab.D} {s : List AObj} {K : AV → List AObj → Prop} (h : FnK Tryz.prog f (ds.map .d) s K) {xs : List AV} (hx : toDs xs = some ds) : FnK Tryz.prog f xs s K :=
 let ⟨d, s', h1, h2⟩ := h; ⟨d, s', FnRuns.ofD h1 hx, h2⟩
theorem mGo_len {f : Nat → Option Nat} : ∀ (is : List Nat) (last : Int) (out l : List Mt), mGo f is last out = some l → l.length ≤ out.length + is.length
 | [], last, out, l, h => by simp [mGo] at h; subst h; simp
 | i :: is, last, out, l, h => by
   rw [mGo] at h
   cases hfi : f i with
   | none => rw [hfi] at h; have := mGo_len is last out l h; rw [List.length_cons]; omega
   | some k =>
     rw [hfi] at h
     dsimp only at h
     split at h
     · cases h
     · have := mGo_len is k _ l h
       have := (mPut_len out i k).1
       rw [List.length_cons]; omega
theorem txtL_get {ls : List Vtx} {l : List Nat} {i p : Nat} {x : Vtx} (h1 : l[i]? = some p) (h2 : ls[p]? = some x) : (txtL ls l)[i]? = some x.text := by
 unfold txtL
 rw [List.getElem?_map, h1, Option.map_some]
 unfold txt
 rw [h2]
theorem fM_from {old new : Gr} {a b : List Nat} {l : List Mt} (h : mGo (fM old new a b) (List.range' 0 a.length) (-1) [] = some l) : MFrom (txtL old.lines a) (txtL new.lines b) 0 0 true l := by
 refine mGo_ok (f := fM old new a b) (fun i k hik => ?_) a.length 0 (-1) [] l trivial (Nat.zero_le _) (by simp [mEnd]) (by omega) h
 obtain ⟨p, q, x, y, e1, e2, e3, e4, hs⟩ := fM_spec hik
 rw [txtL_len, txtL_len]
 exact ⟨(List.getElem?_eq_some_iff.1 e1).1, (List.getElem?_eq_some_iff.1 e2).1, by rw [txtL_get e1 e3, txtL_get e2 e4, hs.2.2]⟩
set_option maxRecDepth 10000 in
set_option maxHeartbeats 1000000 in
theorem linHunks_fn {old new : Gr} (ho : GrOk old) (hn : GrOk new) : AFn Tryz.prog 20 [dGraph old, dGraph new] (.tup [dHks (hunksR old new).1, .sc (.int .i64 (hunksR old new).2)]) := by
 have hc1 := Check_fn ho
 have hc2 := Check_fn hn
 have hl1 := linClean_fn ho
 have hl2 := linClean_fn hn
 have hs1 := linSequence_fn ho
 have hs2 := linSequence_fn hn
 obtain ⟨a1, a2, a3⟩ := seq_facts ho
 obtain ⟨b1, b2, b3⟩ := seq_facts hn
 have ht1 := (linTexts_fn ho a1 a2)
 have ht2 := (linTexts_fn hn b1 b2)
 refine AFn_of (F := k_linHunks) (okb_linHunks.trans (by kernel_rfl)) (by simp [k_linHunks]) ?_
 simp only [k_linHunks, dGraph, ↓Both_true, ↓Both_false, wx, reduceCtorEq, reduceIte, Nat.reduceAdd, Nat.reduceEqDiff, Nat.reduceLT, Nat.reduceLeDiff]
 refine CallM.data hc1 rfl ?_
 by_cases q1 : old.check = 0
 · have q1' : (old.check != 0) = false := by simp [q1]
   simp only [dGraph, q1', ↓Both_true, ↓Both_false, wx, reduceCtorEq, reduceIte, Nat.reduceAdd, Nat.reduceEqDiff, Nat.reduceLT, Nat.reduceLeDiff]
   refine CallM.data hc2 rfl ?_
   by_cases q2 : new.check = 0
   · have q2' : (new.check != 0) = false := by simp [q2]
     simp only [dGraph, q1', q2', ↓Both_true, ↓Both_false, wx, reduceCtorEq, reduceIte, Nat.reduceAdd, Nat.reduceEqDiff, Nat.reduceLT, Nat.reduceLeDiff]
     refine CallM.data hl1 rfl ?_
     cases q3 : (regionsL old.reach old.living).any Reg.conflict with
     | true =>
       have hr : hunksR old new = ([], 15) := by unfold hunksR; rw [if_neg (by simp [q1]), if_neg (by simp [q2]), if_pos (.inl q3)]
       simp only [dGraph, q1', q2', hr, dBool, dHks, deepD, ↓Both_true, ↓Both_false, wx, reduceCtorEq, reduceIte, Nat.reduceAdd, Nat.reduceEqDiff, Nat.reduceLT, Nat.reduceLeDiff]
     | false =>
       simp only [dGraph, q1', q2', dBool, ↓Both_true, ↓Both_false, wx, reduceCtorEq, reduceIte, Nat.reduceAdd, Nat.reduceEqDiff, Nat.reduceLT, Nat.reduceLeDiff]
       refine CallM.data hl2 rfl ?_
       cases q4 : (regionsL new.reach new.living).any Reg.conflict with
       | true =>
         have hr : hunksR old new = ([], 15) := by unfold hunksR; rw [if_neg (by simp [q1]), if_neg (by simp [q2]), if_pos (.inr q4)]
         simp only [dGraph, q1', q2', hr, dBool, dHks, deepD, ↓Both_true, ↓Both_false, wx, reduceCtorEq, reduceIte, Nat.reduceAdd, Nat.reduceEqDiff, Nat.reduceLT, Nat.reduceLeDiff]
       | false =>
         have h22 : 2 ≤ 2 := Nat.le_refl _
         simp only [dGraph, q1', q2', dBool, h22, ↓Both_true, ↓Both_false, wx, reduceCtorEq, reduceIte, Nat.reduceAdd, Nat.reduceEqDiff, Nat.reduceLT, Nat.reduceLeDiff]
         refine CallM.data hs1 rfl ?_
         simp only [dGraph, q1', q2', dBool, h22, ↓Both_true, ↓Both_false, wx, reduceCtorEq, reduceIte, Nat.reduceAdd, Nat.reduceEqDiff, Nat.reduceLT, Nat.reduceLeDiff]
         refine CallM.data hs2 rfl ?_
         simp only [dGraph, q1', q2', dBool, h22, ↓Both_true, ↓Both_false, wx, reduceCtorEq, reduceIte, Nat.reduceAdd, Nat.reduceEqDiff, Nat.reduceLT, Nat.reduceLeDiff]
         refine ⟨(ordF_coarse (by simp only [List.map_cons, List.map_nil, coarse_rd, coarse_wr]; rfl)), ?_⟩
         have hlo := linesOk_of_check q1
         have hln := linesOk_of_check q2
         cases hR : mGo (fM old new (seqL old.reach old.living) (seqL new.reach new.living)) (List.range' 0 (seqL old.reach old.living).length) (-1) [] with
         | none =>
           have hr : hunksR old new = ([], 9) := by unfold hunksR; rw [if_neg (by simp [q1]), if_neg (by simp [q2]), if_neg (by simp [q3, q4]), hR]
           have hm := linMatches_fn ho hn a1 b1 a2 b2 b3 hln
           rw [hR] at hm
           refine CallM.data hm rfl ?_
           simp only [dGraph, q1', q2', dBool, h22, hr, Option.getD_none, Option.isSome_none, dHks, deepD, ↓Both_true, ↓Both_false, wx, reduceCtorEq, reduceIte, Nat.reduceAdd, Nat.reduceEqDiff, Nat.reduceLT, Nat.reduceLeDiff]
         | some l =>
           have hr : hunksR old new = (hGo (txtL old.lines (seqL old.reach old.living)) (txtL new.lines (seqL new.reach new.living)) 0 0 l, 0) := by unfold hunksR; rw [if_neg (by simp [q1]), if_neg (by simp [q2]), if_neg (by simp [q3, q4]), hR]
           have hml := mGo_len _ _ _ _ hR
           rw [List.length_range', List.length_nil, Nat.zero_add] at hml
           have hof := fun v hv => hunksOf_K (txtL old.lines (seqL old.reach old.living)) (txtL new.lines (seqL new.reach new.living)) l v hv (fM_from hR) (by rw [txtL_len]; exact a2) (by rw [txtL_len]; exact b2) (by omega)
           by_cases hl0 : l = []
           · subst hl0
             obtain ⟨d, s', k1, k2⟩ := hof (.nil 3) (.inl ⟨rfl, rfl⟩)
             refine CallM.fn ?_
             refine FnK.mono (FnK.ofD (ds := [dGraph old, dGraph new, dNats (seqL old.reach old.living), dNats (seqL new.reach new.living)]) (linMatches_nil ho hn a1 b1 a2 b2 b3 hln hR _) rfl) ?_
             rintro _ _ ⟨rfl, J, rfl⟩
             simp only [dGraph, q1', q2', dBool, Option.getD_none, Option.isSome_none, dHks, deepD, hr, h22, ↓Both_true, ↓Both_false, wx, reduceCtorEq, reduceIte, Nat.reduceAdd, Nat.reduceEqDiff, Nat.reduceLT, Nat.reduceLeDiff]
             refine CallM.data ht1 rfl ?_
             simp only [dGraph, q1', q2', dBool, Option.getD_none, Option.isSome_none, dHks, deepD, hr, h22, ↓Both_true, ↓Both_false, wx, reduceCtorEq, reduceIte, Nat.reduceAdd, Nat.reduceEqDiff, Nat.reduceLT, Nat.reduceLeDiff]
             refine CallM.data ht2 rfl ?_
             simp only [dGraph, q1', q2', dBool, Option.getD_none, Option.isSome_none, dHks, deepD, hr, h22, ↓Both_true, ↓Both_false, wx, reduceCtorEq, reduceIte, Nat.reduceAdd, Nat.reduceEqDiff, Nat.reduceLT, Nat.reduceLeDiff]
             refine CallM.run (FnRuns.frameD k1 rfl k2 _) ?_
             simp only [dGraph, q1', q2', dBool, Option.getD_none, Option.isSome_none, dHks, hr, h22, deepD, AV.toL, ↓Both_true, ↓Both_false, wx, reduceCtorEq, reduceIte, Nat.reduceAdd, Nat.reduceEqDiff, Nat.reduceLT, Nat.reduceLeDiff]
             exact (ordF_coarse (by simp only [List.map_cons, List.map_nil, coarse_rd, coarse_wr]; rfl))
           · obtain ⟨d, s', k1, k2⟩ := hof (.d (dMts l)) (.inr ⟨hl0, rfl⟩)
             have hm := linMatches_fn ho hn a1 b1 a2 b2 b3 hln
             rw [hR] at hm
             refine CallM.data hm rfl ?_
             simp only [dGraph, q1', q2', dBool, Option.getD_none, Option.isSome_none, dHks, deepD, AV.toL, hr, h22, Option.getD_some, Option.isSome_some, ↓Both_true, ↓Both_false, wx, reduceCtorEq, reduceIte, Nat.reduceAdd, Nat.reduceEqDiff, Nat.reduceLT, Nat.reduceLeDiff]
             refine CallM.data ht1 rfl ?_
             simp only [dGraph, q1', q2', dBool, Option.getD_none, Option.isSome_none, dHks, deepD, AV.toL, hr, Option.getD_some, Option.isSome_some, h22, ↓Both_true, ↓Both_false, wx, reduceCtorEq, reduceIte, Nat.reduceAdd, Nat.reduceEqDiff, Nat.reduceLT, Nat.reduceLeDiff]
             refine CallM.data ht2 rfl ?_
             simp only [dGraph, q1', q2', dBool, Option.getD_none, Option.isSome_none, dHks, deepD, AV.toL, hr, Option.getD_some, Option.isSome_some, h22, ↓Both_true, ↓Both_false, wx, reduceCtorEq, reduceIte, Nat.reduceAdd, Nat.reduceEqDiff, Nat.reduceLT, Nat.reduceLeDiff]
             refine CallM.run (FnRuns.frameD k1 rfl k2 _) ?_
             simp only [dGraph, q1', q2', dBool, Option.getD_none, Option.isSome_none, dHks, hr, Option.getD_some, Option.isSome_some, h22, deepD, AV.toL, ↓Both_true, ↓Both_false, wx, reduceCtorEq, reduceIte, Nat.reduceAdd, Nat.reduceEqDiff, Nat.reduceLT, Nat.reduceLeDiff]
             exact (ordF_coarse (by simp only [List.map_cons, List.map_nil, coarse_rd, coarse_wr]; rfl))
   · have q2' : (new.check != 0) = true := by simpa using q2
     have hr : hunksR old new = ([], new.check) := by unfold hunksR; rw [if_neg (by simp [q1]), if_pos q2]
     simp only [q2', hr, dHks, deepD, ↓Both_true, ↓Both_false, wx, reduceCtorEq, reduceIte, Nat.reduceAdd, Nat.reduceEqDiff, Nat.reduceLT, Nat.reduceLeDiff]
 · have q1' : (old.check != 0) = true := by simpa using q1
   have hr : hunksR old new = ([], old.check) := by unfold hunksR; rw [if_pos q1]
   simp only [q1', hr, dHks, deepD, ↓Both_true, ↓Both_false, wx, reduceCtorEq, reduceIte, Nat.reduceAdd, Nat.reduceEqDiff, Nat.reduceLT, Nat.reduceLeDiff]
end Go.Proofs.Lh
