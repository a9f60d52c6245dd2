/-
  Part GAS of this claim's proof. Joined by merge.py from the texts of wip/tpl.
-/
import Derived.Test.YtclholnhkhjjaaaGreatGAL
import Derived.Test.YtclholnhkhjjaaaGreatGAR
import Derived.Test.YtclholnhkhjjaaaGreatGAB
set_option linter.unusedVariables false
set_option linter.unusedSimpArgs false
set_option linter.unnecessarySimpa false
namespace Go.Proofs.Lg
open Go Go.Ab Go.Bb Go.RowKit Go.Proofs.Lh
def strow (b : ByteArray) : List D := [.sc (.string b)]
def dStrs (l : List ByteArray) : D := .sl 1 (l.map strow)
def txt (ls : List Vtx) (i : Nat) : ByteArray := match ls[i]? with | some x => x.text | none => ByteArray.empty
def txtL (ls : List Vtx) (l : List Nat) : List ByteArray := l.map (txt ls)
theorem vrow_text {v : Vtx} (h : v.id.length = 32) : (vrow v).drop 33 = [.sc (.string v.text), .sc (.bool v.living)] := by
 simp only [vrow, Vtx.cells, List.map_append, List.drop_append, List.length_map, h]
 rw [List.drop_eq_nil_of_le (by simp [h])]
 rfl
theorem txtL_take {ls : List Vtx} {l : List Nat} {k : Nat} (hk : k < l.length) : txtL ls (l.take (k + 1)) = txtL ls (l.take k) ++ [txt ls l[k]] := by
 unfold txtL
 rw [List.take_succ_eq_append_getElem hk, List.map_append]; rfl
theorem txtL_len (ls : List Vtx) (l : List Nat) : (txtL ls l).length = l.length := by unfold txtL; rw [List.length_map]
theorem sizes16 {k : Nat} (h : k ≤ 4000000) : (k + 1) * 16 ≤ 140737488355328 ∧ (k + 1) * 16 ≤ 140737488355328 ∧ k ≤ 9223372036854775806 ∧ k ≤ 9223372036854775806 := by omega
theorem any_take_step' {α : Type} {l : List α} {p : α → Bool} {k : Nat} (h : (l.take k).any p = false) (hk : k < l.length) (hp : p l[k] = false) : (l.take (k + 1)).any p = false := by
 rw [List.take_succ_eq_append_getElem hk, List.any_append, h]; simp [hp]
theorem any_hit' {α : Type} {l : List α} {p : α → Bool} {k : Nat} (hk : k < l.length) (hp : p l[k] = true) : l.any p = true := List.any_eq_true.2 ⟨l[k], List.getElem_mem _, hp⟩
def growF (n : Nat) (rows : List (List D)) : AV := if n = 0 then .nil 1 else .tsl 2 1 rows
def growS (A j : AObj) (t n : Nat) (J : List AObj) : List AObj := if n = 0 then [A] else A :: j :: .row t 1 n :: J
theorem growF_nil (rows : List (List D)) : growF 0 rows = .nil 1 := rfl
theorem growF_cons (n : Nat) (rows : List (List D)) : growF (n + 1) rows = .tsl 2 1 rows := rfl
theorem growS_nil (A j : AObj) (t : Nat) (J : List AObj) : growS A j t 0 J = [A] := rfl
theorem growS_cons (A j : AObj) (t n : Nat) (J : List AObj) : growS A j t (n + 1) J = A :: j :: .row t 1 (n + 1) :: J := rfl
theorem linTexts_fn {g : Gr} (hg : GrOk g) {l : List Nat} (hl : ∀ j ∈ l, j < g.lines.length) (hll : l.length ≤ 1000000) : AFn Tryz.prog 58 [dGraph g, dNats l] (dStrs (txtL g.lines l)) := by
 refine AFn_of (F := k_linTexts) (okb_linTexts.trans (by kernel_rfl)) (by simp [k_linTexts]) ?_
 simp only [k_linTexts, dGraph, dNats, dStrs, dLines, roomOk, ↓Both_true, ↓Both_false, wx, reduceCtorEq, reduceIte, Nat.reduceAdd, Nat.reduceEqDiff, Nat.reduceLT, Nat.reduceLeDiff, wj, ← List.map_take, ← List.map_drop]
 refine LoopK.at (fun b : Nat × AObj × List AObj => [(10, .d (.sc (.int .i64 b.1))), (9, .d (.sc (.int .i64 l.length))), (8, .d (.sl 1 (l.map nrow))), (2, .ptr 0 0), (5, growF b.1 ((txtL g.lines (l.take b.1)).map strow))]) (fun b => growS (.cells [.d (.sl 35 (g.lines.map vrow)), .d (dEdges g.edges)]) b.2.1 9 b.1 b.2.2)
   (fun m b => m + b.1 = l.length) l.length (0, .row 0 0 0, []) (by simp [SubB, Go.Bb.look, growF]) rfl rfl ?_
 rintro m ⟨k, j, J⟩ hm
 dsimp only at hm ⊢
 by_cases hlt : k < l.length
 · have h1 : decide ((k : Int) < (l.length : Int)) = true := by simpa using hlt
   have h2 : l[k]? = some l[k] := List.getElem?_eq_getElem hlt
   have h3 : IntKind.i64.wrap ((k : Int) + 1) = ((k + 1 : Nat) : Int) := wrapN (by omega) (by omega)
   have hj := hl l[k] (List.getElem_mem _)
   have h4 := txtL_take (ls := g.lines) hlt
   have hlen : (txtL g.lines (l.take k)).length = k := by rw [txtL_len, List.length_take]; omega
   generalize l[k] = y at h2 h4 hj
   have h5 : g.lines[y]? = some g.lines[y] := List.getElem?_eq_getElem hj
   have h6 : txt g.lines y = g.lines[y].text := by unfold txt; rw [h5]
   have h7 := vrow_text (hg.okl g.lines[y] (List.getElem_mem _)).1
   rw [h6] at h4
   generalize g.lines[y] = x at h4 h5 h7
   obtain ⟨p1, p2, p3, p4⟩ := sizes16 (k := k) (by omega)
   cases k with
   | zero =>
     have h8 : txtL g.lines (l.take 0) = [] := by simp [txtL]
     rw [h8] at h4
     have c1 : roomOk 1 16 = true := by decide
     simp only [growF_nil, growS_nil, h1, h2, h3, h5, h7, c1, nrow, strow, List.map_append, ↓Both_true, ↓Both_false, wx, reduceCtorEq, reduceIte, Nat.reduceAdd, Nat.reduceEqDiff, Nat.reduceLT, Nat.reduceLeDiff, wj, ← List.map_take, ← List.map_drop]
     refine ⟨m - 1, (1, .row 9 1 1, []), by omega, ⟨rfl, ?_⟩, rfl, by dsimp only; omega⟩
     dsimp only
     rw [h4]
     rfl
   | succ k =>
     have p5 : k ≤ 9223372036854775805 := by omega
     simp only [growF_cons, growS_cons, h1, h2, h3, h4, h5, h7, p1, p2, p5, hlen, nrow, strow, List.map_append, roomOk, ↓Both_true, ↓Both_false, wx, reduceCtorEq, reduceIte, Nat.reduceAdd, Nat.reduceEqDiff, Nat.reduceLT, Nat.reduceLeDiff, wj, ← List.map_take, ← List.map_drop]
     refine ⟨m - 1, (k + 1 + 1, j, J ++ [.row 9 1 1]), by omega, ⟨rfl, ?_⟩, rfl, by dsimp only; omega⟩
     dsimp only
     rw [h4, growF_cons, List.map_append]
     rfl
 · have hk : k = l.length := by omega
   subst hk
   have h1 : decide ((l.length : Int) < (l.length : Int)) = false := by simp
   have h2 : l.take l.length = l := List.take_length
   cases hl0 : l.length with
   | zero =>
     have : l = [] := List.eq_nil_of_length_eq_zero hl0
     subst this
     have h1' : decide (((0 : Nat) : Int) < ((0 : Nat) : Int)) = false := by decide
     simp only [growF_nil, growS_nil, h1', List.length_nil, txtL, List.map_nil, roomOk, ↓Both_true, ↓Both_false, wx, reduceCtorEq, reduceIte, Nat.reduceAdd, Nat.reduceEqDiff, Nat.reduceLT, Nat.reduceLeDiff, wj, ← List.map_take, ← List.map_drop]
   | succ n =>
     rw [hl0] at h1 h2
     simp only [growF_cons, growS_cons, h1, h2, roomOk, ↓Both_true, ↓Both_false, wx, reduceCtorEq, reduceIte, Nat.reduceAdd, Nat.reduceEqDiff, Nat.reduceLT, Nat.reduceLeDiff, wj, ← List.map_take, ← List.map_drop]
end Go.Proofs.Lg

namespace Go.Proofs.Lg
open Go Go.Ab Go.Bb Go.RowKit Go.Proofs.Lh
def dMt (m : Mt) : List D := [.sc (.int .i64 m.a), .sc (.int .i64 m.b), .sc (.int .i64 m.len)]
def dMts (l : List Mt) : D := .sl 3 (l.map dMt)
def dHk (h : Hk) : List D := [.sc (.int .i64 h.pos), dStrs h.old, dStrs h.new]
def dHks (l : List Hk) : D := .sl 3 (l.map dHk)
theorem gtN (a b : Nat) : decide ((a : Int) > (b : Int)) = decide (b < a) := by
 by_cases h : b < a <;> simp [h] <;> omega
def hOne (a b : List ByteArray) (i k x y : Nat) : List Hk := if x > i ∨ y > k then [⟨i, (a.take x).drop i, (b.take y).drop k⟩] else []
theorem hGo_nil (a b : List ByteArray) (i k : Nat) : hGo a b i k [] = hOne a b i k a.length b.length := by
 unfold hGo hOne
 rw [List.take_length, List.take_length]
theorem hGo_cons (a b : List ByteArray) (i k : Nat) (m : Mt) (l : List Mt) : hGo a b i k (m :: l) = hOne a b i k m.a m.b ++ hGo a b (m.a + m.len) (m.b + m.len) l := rfl
end Go.Proofs.Lg

namespace Go.Proofs.Lg
open Go Go.Ab Go.Bb Go.RowKit Go.Proofs.Lh
end Go.Proofs.Lg

namespace Go.Proofs.Lg
open Go Go.Ab Go.Bb Go.RowKit Go.Proofs.Lh
theorem cntA {mm m n : Nat} (h : mm + m = n) (hl : m < n) : mm - 1 < mm ∧ mm - 1 + (m + 1) = n := by omega
end Go.Proofs.Lg

namespace Go.Proofs.Lg
open Go Go.Ab Go.Bb Go.RowKit Go.Proofs.Lh
theorem addN {x y : Nat} (h1 : x ≤ 1000000000000) (h2 : y ≤ 1000000000000) : IntKind.i64.wrap ((x : Int) + (y : Int)) = ((x + y : Nat) : Int) := by rw [wrap64_id (by omega) (by omega)]; omega
theorem subN {x y : Nat} (h1 : x ≤ 1000000000000) (h2 : y ≤ x) : IntKind.i64.wrap ((x : Int) - (y : Int)) = (x : Int) - (y : Int) := by rw [wrap64_id (by omega) (by omega)]
end Go.Proofs.Lg

namespace Go.Proofs.Lg
open Go Go.Ab Go.Bb Go.RowKit Go.Proofs.Lh
theorem str_ne {x y : ByteArray} (h : x ≠ y) : (x.toList == y.toList) = false := by
 rw [Bool.eq_false_iff, Ne, beq_iff_eq, ByteArray.toList_eq, ByteArray.toList_eq]
 exact fun h' => h (ByteArray.ext (Array.toList_inj.mp h'))
theorem mPut_len (out : List Mt) (i k : Nat) : (mPut out i k).length ≤ out.length + 1 ∧ out.length ≤ (mPut out i k).length := by
 unfold mPut
 cases h : out.getLast? with
 | none => rw [List.getLast?_eq_none_iff] at h; subst h; exact ⟨Nat.le_refl _, Nat.zero_le _⟩
 | some m =>
   dsimp only
   have hne : out ≠ [] := fun e => by rw [e] at h; cases h
   have := List.length_pos_iff.2 hne
   split
   · simp; omega
   · simp
theorem vrow_35 {v : Vtx} (h : v.ok) : (vrow v).length = 35 := by simp [vrow, Vtx.cells, h.1]
theorem vrow_t35 {v : Vtx} (h : v.ok) : (vrow v).take 35 = vrow v := List.take_of_length_le (by rw [vrow_35 h]; exact Nat.le_refl _)
def SameV (x y : Vtx) : Prop := x.id = y.id ∧ x.n = y.n ∧ x.text = y.text
theorem SameV.split {x y : Vtx} (h : SameV x y) : x.id ++ [x.n] = y.id ++ [y.n] ∧ x.text = y.text := ⟨by rw [h.1, h.2.1], h.2.2⟩
def mtA (l : List Mt) : List AV := l.flatMap fun m => [.d (.sc (.int .i64 m.a)), .d (.sc (.int .i64 m.b)), .d (.sc (.int .i64 m.len))]
theorem mtA_len (l : List Mt) : (mtA l).length = l.length * 3 := by
 induction l with
 | nil => rfl
 | cons m l ih => rw [mtA, List.flatMap_cons, List.length_append, List.length_cons]; unfold mtA at ih; rw [ih]; simp; omega
theorem mtA_snoc (l : List Mt) (m : Mt) : mtA (l ++ [m]) = mtA l ++ [.d (.sc (.int .i64 m.a)), .d (.sc (.int .i64 m.b)), .d (.sc (.int .i64 m.len))] := by simp [mtA]
theorem mtA_get (l : List Mt) (m : Mt) : (mtA (l ++ [m]))[l.length * 3]? = some (.d (.sc (.int .i64 m.a))) ∧ (mtA (l ++ [m]))[l.length * 3 + 1]? = some (.d (.sc (.int .i64 m.b))) ∧ (mtA (l ++ [m]))[l.length * 3 + 2]? = some (.d (.sc (.int .i64 m.len))) := by
 rw [mtA_snoc]
 have h := mtA_len l
 refine ⟨?_, ?_, ?_⟩ <;> rw [List.getElem?_append_right (by omega)] <;> simp [h]
theorem mtA_put (l : List Mt) (m : Mt) (v : AV) : (mtA (l ++ [m])).take (l.length * 3 + 2) ++ (v :: (mtA (l ++ [m])).drop (l.length * 3 + 2 + 1)) = mtA l ++ [.d (.sc (.int .i64 m.a)), .d (.sc (.int .i64 m.b)), v] := by
 rw [mtA_snoc, ← mtA_len]
 rw [List.take_append, List.drop_append, List.take_of_length_le (by omega), List.drop_eq_nil_of_le (by omega)]
 have e1 : (mtA l).length + 2 - (mtA l).length = 2 := by omega
 have e2 : (mtA l).length + 2 + 1 - (mtA l).length = 3 := by omega
 rw [e1, e2]
 simp
theorem mtA_deep (l : List Mt) : chunk 3 l.length (l.flatMap dMt) = l.map dMt := by
 induction l with
 | nil => rfl
 | cons m l ih => 
   rw [List.length_cons, chunk, List.flatMap_cons, List.map_cons]
   simp only [dMt, List.cons_append, List.nil_append, List.take_succ_cons, List.take_zero, List.drop_succ_cons, List.drop_zero]
   exact congrArg _ ih
theorem mapO_mt (s : List AObj) (f : Nat) (l : List Mt) : mapO (deepD s (f + 1)) (mtA l) = some (l.flatMap dMt) := by
 induction l with
 | nil => rfl
 | cons m l ih =>
   unfold mtA at ih
   simp only [mtA, List.flatMap_cons, List.cons_append, List.nil_append, mapO, deepD, AV.toL, AV.toD, ih, dMt, Option.map_some, Option.bind_some]
def MtB (i : Nat) (out : List Mt) : Prop := ∀ m ∈ out, m.a + m.len ≤ i ∧ m.b + m.len ≤ 1000000
theorem MtB.mono {i j : Nat} {out : List Mt} (h : MtB i out) (hij : i ≤ j) : MtB j out := fun m hm => ⟨Nat.le_trans (h m hm).1 hij, (h m hm).2⟩
theorem MtB.put {i k : Nat} {out : List Mt} (h : MtB i out) (hk : k < 1000000) : MtB (i + 1) (mPut out i k) := by
 unfold mPut
 cases hl : out.getLast? with
 | none => intro m hm; simp at hm; subst hm; exact ⟨Nat.le_refl _, by dsimp only; omega⟩
 | some m =>
   have hmm := List.mem_of_getLast? hl
   dsimp only
   split
   · rename_i hc
     intro m' hm'
     rcases List.mem_append.1 hm' with hm' | hm'
     · exact (h.mono (Nat.le_succ _)) m' (List.dropLast_subset _ hm')
     · simp at hm'; subst hm'; exact ⟨by dsimp only; omega, by dsimp only; omega⟩
   · intro m' hm'
     rcases List.mem_append.1 hm' with hm' | hm'
     · exact (h.mono (Nat.le_succ _)) m' hm'
     · simp at hm'; subst hm'; exact ⟨Nat.le_refl _, by dsimp only; omega⟩
theorem mPut_yes {l : List Mt} {m : Mt} {i k : Nat} (h1 : m.a + m.len = i) (h2 : m.b + m.len = k) : mPut (l ++ [m]) i k = l ++ [⟨m.a, m.b, m.len + 1⟩] := by
 unfold mPut; rw [List.getLast?_append]
 simp [h1, h2]
theorem mPut_no {l : List Mt} {m : Mt} {i k : Nat} (h : ¬ (m.a + m.len = i ∧ m.b + m.len = k)) : mPut (l ++ [m]) i k = l ++ [m] ++ [⟨i, k, 1⟩] := by
 unfold mPut; rw [List.getLast?_append]
 simp only [List.getLast?_singleton, Option.some_or, h, if_false]
end Go.Proofs.Lg

namespace Go.Proofs.Lg
open Go Go.RowKit
theorem cmpInt_lt {a b : Int} : cmpInt a b < 0 ↔ a < b := by
 unfold cmpInt
 split <;> (try split) <;> omega
theorem lexCmp_trans : ∀ {a b c : List Int}, lexCmp a b ≤ 0 → lexCmp b c ≤ 0 → lexCmp a c ≤ 0 ∧ (lexCmp a c = 0 → lexCmp a b = 0 ∧ lexCmp b c = 0)
 | [], [], [], _, _ => by simp [lexCmp]
 | [], [], _ :: _, _, _ => by simp [lexCmp]
 | [], _ :: _, [], _, h => by simp [lexCmp] at h
 | [], _ :: _, _ :: _, _, _ => by simp [lexCmp]
 | _ :: _, [], _, h, _ => by simp [lexCmp] at h
 | _ :: _, _ :: _, [], _, h => by simp [lexCmp] at h
 | x :: a, y :: b, z :: c, h1, h2 => by
   have ih := lexCmp_trans (a := a) (b := b) (c := c)
   simp only [lexCmp] at *
   rcases Int.lt_trichotomy x y with hxy | hxy | hxy
   · have hxz : x < z := by
       rcases Int.lt_trichotomy y z with h | h | h
       · omega
       · omega
       · rw [if_neg (by omega), if_pos h] at h2; omega
     rw [if_pos hxz]
     exact ⟨by decide, fun h => by omega⟩
   · subst hxy
     rcases Int.lt_trichotomy x z with h | h | h
     · rw [if_pos h]
       exact ⟨by decide, fun h => by omega⟩
     · subst h
       simp only [Int.lt_irrefl, if_false] at *
       exact ih h1 h2
     · rw [if_neg (by omega), if_pos h] at h2; omega
   · rw [if_neg (by omega), if_pos hxy] at h1; omega
theorem cmpId_trans {a b c : List Int} {n m k : Int} (h1 : cmpId a n b m < 0) (h2 : cmpId b m c k < 0) : cmpId a n c k < 0 := by
 unfold cmpId at *
 have a1 : lexCmp a b ≤ 0 := by split at h1 <;> omega
 have a2 : lexCmp b c ≤ 0 := by split at h2 <;> omega
 obtain ⟨h3, h4⟩ := lexCmp_trans a1 a2
 by_cases h0 : lexCmp a c = 0
 · obtain ⟨k1, k2⟩ := h4 h0
   rw [if_pos k1, cmpInt_lt] at h1
   rw [if_pos k2, cmpInt_lt] at h2
   rw [if_pos h0, cmpInt_lt]
   omega
 · rw [if_neg h0]; omega
theorem linesOk_pair : ∀ {l : List Vtx}, linesOk l = true → l.Pairwise fun a b => a.cmp b < 0
 | [], _ => List.Pairwise.nil
 | [x], _ => by simp
 | x :: y :: l, h => by
   rw [linesOk_cons, Bool.and_eq_true, decide_eq_true_eq] at h
   obtain ⟨h1, h2⟩ := h
   have ih := linesOk_pair h2
   refine List.pairwise_cons.2 ⟨fun z hz => ?_, ih⟩
   rcases List.mem_cons.1 hz with rfl | hz
   · exact h1
   · exact cmpId_trans h1 ((List.pairwise_cons.1 ih).1 z hz)
end Go.Proofs.Lg

namespace Go.Proofs.Lg
open Go Go.RowKit
theorem lexCmp_self : ∀ a : List Int, lexCmp a a = 0
 | [] => rfl
 | x :: a => by simp [lexCmp, lexCmp_self a]
theorem Vtx.cmp_same {x y : Vtx} (h : x.id = y.id) (h' : x.n = y.n) : x.cmp y = 0 := by
 unfold Vtx.cmp cmpId
 rw [h, h', lexCmp_self, if_pos rfl]
 simp [cmpInt]
theorem ids_inj {l : List Vtx} (hl : linesOk l = true) {i j : Nat} {x y : Vtx} (hi : l[i]? = some x) (hj : l[j]? = some y) (h : x.id = y.id) (h' : x.n = y.n) : i = j := by
 have hp := linesOk_pair hl
 rw [List.pairwise_iff_getElem] at hp
 obtain ⟨hil, hix⟩ := List.getElem?_eq_some_iff.1 hi
 obtain ⟨hjl, hjy⟩ := List.getElem?_eq_some_iff.1 hj
 rcases Nat.lt_trichotomy i j with hlt | rfl | hlt
 · have := hp i j hil hjl hlt
   rw [hix, hjy, Vtx.cmp_same h h'] at this
   exact absurd this (by decide)
 · rfl
 · have := hp j i hjl hil hlt
   rw [hix, hjy, Vtx.cmp_same h.symm h'.symm] at this
   exact absurd this (by decide)
def sameB (x y : Vtx) : Bool := decide (x.id = y.id ∧ x.n = y.n) && (x.text.toList == y.text.toList)
theorem sameB_iff {x y : Vtx} : sameB x y = true ↔ SameV x y := by
 unfold sameB SameV
 rw [Bool.and_eq_true, decide_eq_true_eq]
 constructor
 · rintro ⟨⟨h1, h2⟩, h3⟩
   refine ⟨h1, h2, ?_⟩
   by_cases he : x.text = y.text
   · exact he
   · rw [str_ne he] at h3; cases h3
 · rintro ⟨h1, h2, h3⟩
   exact ⟨⟨h1, h2⟩, by rw [h3]; simp⟩
def fM (old new : Gr) (a b : List Nat) (i : Nat) : Option Nat := (a[i]?).bind fun p => (old.lines[p]?).bind fun x => b.findIdx? fun q => (new.lines[q]?).any (sameB x)
theorem fM_spec {old new : Gr} {a b : List Nat} {i k : Nat} (h : fM old new a b i = some k) : ∃ p q x y, a[i]? = some p ∧ b[k]? = some q ∧ old.lines[p]? = some x ∧ new.lines[q]? = some y ∧ SameV x y := by
 unfold fM at h
 obtain ⟨p, h1, h⟩ := Option.bind_eq_some_iff.1 h
 obtain ⟨x, h2, h⟩ := Option.bind_eq_some_iff.1 h
 obtain ⟨hk, h3, _⟩ := List.findIdx?_eq_some_iff_getElem.1 h
 cases h4 : new.lines[b[k]]? with
 | none => rw [h4] at h3; cases h3
 | some y =>
   rw [h4] at h3
   exact ⟨p, b[k], x, y, h1, List.getElem?_eq_getElem hk, h2, h4, sameB_iff.1 h3⟩
theorem nd_get {l : List Nat} (h : l.Nodup) {i j p : Nat} (hi : l[i]? = some p) (hj : l[j]? = some p) : i = j := by
 obtain ⟨hil, hix⟩ := List.getElem?_eq_some_iff.1 hi
 obtain ⟨hjl, hjy⟩ := List.getElem?_eq_some_iff.1 hj
 rcases Nat.lt_trichotomy i j with hlt | rfl | hlt
 · exact absurd (hix.trans hjy.symm) (List.pairwise_iff_getElem.1 h i j hil hjl hlt)
 · rfl
 · exact absurd (hjy.trans hix.symm) (List.pairwise_iff_getElem.1 h j i hjl hil hlt)
theorem fM_iff {old new : Gr} {a b : List Nat} (hn : linesOk new.lines = true) (hb : b.Nodup) {i k p q : Nat} {x y : Vtx} (h1 : a[i]? = some p) (h2 : b[k]? = some q) (h3 : old.lines[p]? = some x) (h4 : new.lines[q]? = some y) : fM old new a b i = some k ↔ SameV x y := by
 constructor
 · intro h
   obtain ⟨p', q', x', y', e1, e2, e3, e4, hs⟩ := fM_spec h
   rw [h1] at e1; obtain rfl := Option.some.inj e1
   rw [h2] at e2; obtain rfl := Option.some.inj e2
   rw [h3] at e3; obtain rfl := Option.some.inj e3
   rw [h4] at e4; obtain rfl := Option.some.inj e4
   exact hs
 · intro hs
   have hex : ∃ k', fM old new a b i = some k' := by
     unfold fM
     rw [h1, Option.bind_some, h3, Option.bind_some]
     cases hf : b.findIdx? (fun q => (new.lines[q]?).any (sameB x)) with
     | some k' => exact ⟨k', rfl⟩
     | none =>
       have := List.findIdx?_eq_none_iff.1 hf q (List.mem_of_getElem? h2)
       rw [h4] at this
       have hs' := sameB_iff.2 hs
       simp [hs'] at this
   obtain ⟨k', hk'⟩ := hex
   obtain ⟨p', q', x', y', e1, e2, e3, e4, hs2⟩ := fM_spec hk'
   rw [h1] at e1; obtain rfl := Option.some.inj e1
   rw [h3] at e3; obtain rfl := Option.some.inj e3
   have hq : q = q' := ids_inj hn h4 e4 (hs.1.symm.trans hs2.1) (hs.2.1.symm.trans hs2.2.1)
   subst hq
   rw [hk', nd_get hb e2 h2]
end Go.Proofs.Lg

namespace Go.Proofs.Lh
open Go Go.Bb Go.RowKit Go.Proofs.Lg
def ks33 : List SK := [.i, .i, .i, .i, .i, .i, .i, .i, .i, .i, .i, .i, .i, .i, .i, .i, .i, .i, .i, .i, .i, .i, .i, .i, .i, .i, .i, .i, .i, .i, .i, .i, .i]
def idVs (v : Vtx) : List Value := v.id.map (Value.int .u8) ++ [Value.int .i64 v.n]
theorem scsA_sc : ∀ (l : List Value), scsA (l.map fun u => AV.d (.sc u)) = some l
 | [] => rfl
 | u :: l => by rw [List.map_cons, scsA, scsA_sc l]; rfl
theorem idVs_len {v : Vtx} (h : v.ok) : (idVs v).length = 33 := by simp [idVs, h.1]
theorem vrow_id {v : Vtx} (h : v.ok) : (vrow v).take 33 = (idVs v).map .sc := by
 have h1 : ((v.id.map (Value.int .u8) ++ [Value.int .i64 v.n]).map Go.Ab.D.sc).length = 33 := by simp [h.1]
 have h2 : vrow v = (idVs v).map .sc ++ [.sc (.string v.text), .sc (.bool v.living)] := by simp [vrow, Vtx.cells, idVs]
 rw [h2, List.take_append, List.take_of_length_le (by rw [List.length_map, idVs_len h]; exact Nat.le_refl _), List.length_map, idVs_len h]
 simp
theorem key_id {v : Vtx} (h : v.ok) : AV.keyK true ks33 (.d (.agg ((vrow v).take 33))) = some (idVs v) := by
 have h1 : (idVs v).length = 33 := idVs_len h
 rw [vrow_id h]
 simp only [AV.keyK, AV.key, AV.row, Option.bind_some, List.map_map, if_true]
 have h2 : List.map (AV.d ∘ Go.Ab.D.sc) (idVs v) = (idVs v).map fun u => AV.d (.sc u) := rfl
 rw [h2, scsA_sc, Option.bind_some, if_pos (by rw [h1]; rfl)]
theorem eqKs_u8 : ∀ (x y : List Int) (ks : List SK) (us vs : List Value) (b : Bool), x.length = y.length → eqKs ks us vs = some b → eqKs (List.replicate x.length .i ++ ks) (x.map (Value.int .u8) ++ us) (y.map (Value.int .u8) ++ vs) = some (decide (x = y) && b)
 | [], [], _, _, _, _, _, h => by simpa using h
 | [], _ :: _, _, _, _, _, h, _ => by simp at h
 | _ :: _, [], _, _, _, _, h, _ => by simp at h
 | a :: x, c :: y, ks, us, vs, b, hl, h => by
   have ih := eqKs_u8 x y ks us vs b (by simpa using hl) h
   rw [List.length_cons, List.replicate_succ, List.cons_append, List.map_cons, List.map_cons, List.cons_append, List.cons_append, eqKs, if_pos rfl, ih]
   by_cases e : a = c
   · subst e; simp
   · have : (a == c) = false := by simpa using e
     simp [this, e]
theorem eqKs_id {x y : Vtx} (hx : x.ok) (hy : y.ok) : eqKs ks33 (idVs x) (idVs y) = some (decide (x.id = y.id) && decide (x.n = y.n)) := by
 have h1 : eqKs [SK.i] [Value.int .i64 x.n] [Value.int .i64 y.n] = some (decide (x.n = y.n)) := by
   rw [eqKs, if_pos rfl, eqKs]
   by_cases e : x.n = y.n <;> simp [e]
 have h2 := eqKs_u8 x.id y.id _ _ _ _ (hx.1.trans hy.1.symm) h1
 rw [hx.1] at h2
 exact h2
def plE (ls : List Vtx) : Nat → List Nat → List (List Value × AV)
 | _, [] => []
 | i, q :: l => (match ls[q]? with | some x => idVs x | none => [], .d (.sc (.int .i64 i))) :: plE ls (i + 1) l
theorem plE_snoc (ls : List Vtx) : ∀ (l : List Nat) (i q : Nat) (x : Vtx), ls[q]? = some x → plE ls i (l ++ [q]) = plE ls i l ++ [(idVs x, .d (.sc (.int .i64 ((i + l.length : Nat) : Int))))]
 | [], i, q, x, h => by simp [plE, h]
 | p :: l, i, q, x, h => by
   rw [List.cons_append, plE, plE, plE_snoc ls l (i + 1) q x h, List.cons_append, List.length_cons]
   have : i + 1 + l.length = i + (l.length + 1) := by omega
   rw [this]
def plF (ls : List Vtx) (x : Vtx) (b : List Nat) : Option Nat := b.findIdx? fun q => (ls[q]?).any fun y => decide (x.id = y.id) && decide (x.n = y.n)
theorem findE_plE {ls : List Vtx} (hls : ∀ y ∈ ls, y.ok) {x : Vtx} (hx : x.ok) : ∀ (b : List Nat) (i j : Nat), (∀ q ∈ b, q < ls.length) → findE ks33 (idVs x) (plE ls i b) j = some ((plF ls x b).map fun k => (j + k, .d (.sc (.int .i64 ((i + k : Nat) : Int)))))
 | [], i, j, _ => rfl
 | q :: b, i, j, h => by
   have hq := h q List.mem_cons_self
   have e : ls[q]? = some ls[q] := List.getElem?_eq_getElem hq
   have hy := hls _ (List.getElem_mem hq)
   rw [plE, findE, e]
   dsimp only
   rw [eqKs_id hx hy, Option.bind_some]
   unfold plF
   rw [List.findIdx?_cons, e, Option.any_some]
   cases hb : (decide (x.id = ls[q].id) && decide (x.n = ls[q].n)) with
   | true => simp
   | false =>
     rw [if_neg (by simp), if_neg (by simp), findE_plE hls hx b (i + 1) (j + 1) fun q hq => h q (List.mem_cons_of_mem _ hq)]
     unfold plF
     rw [Option.map_map]
     congr 2
     funext k
     simp only [Function.comp]
     have e1 : j + 1 + k = j + (k + 1) := by omega
     have e2 : i + 1 + k = i + (k + 1) := by omega
     rw [e1, e2]
def mtA (l : List Mt) : List AV := l.flatMap fun m => [.d (.sc (.int .i64 m.a)), .d (.sc (.int .i64 m.b)), .d (.sc (.int .i64 m.len))]
theorem mtA_len (l : List Mt) : (mtA l).length = l.length * 3 := by
 induction l with
 | nil => rfl
 | cons m l ih => rw [mtA, List.flatMap_cons, List.length_append, List.length_cons]; unfold mtA at ih; rw [ih]; simp; omega
theorem mtA_snoc (l : List Mt) (m : Mt) : mtA (l ++ [m]) = mtA l ++ [.d (.sc (.int .i64 m.a)), .d (.sc (.int .i64 m.b)), .d (.sc (.int .i64 m.len))] := by simp [mtA]
theorem mtA_get (l : List Mt) (m : Mt) : (mtA (l ++ [m]))[l.length * 3]? = some (.d (.sc (.int .i64 m.a))) ∧ (mtA (l ++ [m]))[l.length * 3 + 1]? = some (.d (.sc (.int .i64 m.b))) ∧ (mtA (l ++ [m]))[l.length * 3 + 2]? = some (.d (.sc (.int .i64 m.len))) := by
 rw [mtA_snoc]
 have h := mtA_len l
 refine ⟨?_, ?_, ?_⟩ <;> rw [List.getElem?_append_right (by omega)] <;> simp [h]
theorem mtA_put (l : List Mt) (m : Mt) (v : AV) : (mtA (l ++ [m])).take (l.length * 3 + 2) ++ (v :: (mtA (l ++ [m])).drop (l.length * 3 + 2 + 1)) = mtA l ++ [.d (.sc (.int .i64 m.a)), .d (.sc (.int .i64 m.b)), v] := by
 rw [mtA_snoc, ← mtA_len]
 rw [List.take_append, List.drop_append, List.take_of_length_le (by omega), List.drop_eq_nil_of_le (by omega)]
 have e1 : (mtA l).length + 2 - (mtA l).length = 2 := by omega
 have e2 : (mtA l).length + 2 + 1 - (mtA l).length = 3 := by omega
 rw [e1, e2]
 simp
theorem mtA_deep (l : List Mt) : chunk 3 l.length (l.flatMap dMt) = l.map dMt := by
 induction l with
 | nil => rfl
 | cons m l ih =>
   rw [List.length_cons, chunk, List.flatMap_cons, List.map_cons]
   simp only [dMt, List.cons_append, List.nil_append, List.take_succ_cons, List.take_zero, List.drop_succ_cons, List.drop_zero]
   exact congrArg _ ih
theorem mapO_mt (s : List AObj) (f : Nat) (l : List Mt) : mapO (deepD s (f + 1)) (mtA l) = some (l.flatMap dMt) := by
 induction l with
 | nil => rfl
 | cons m l ih =>
   unfold mtA at ih
   simp only [mtA, List.flatMap_cons, List.cons_append, List.nil_append, mapO, deepD, AV.toL, AV.toD, ih, dMt, Option.map_some, Option.bind_some]
end Go.Proofs.Lh
