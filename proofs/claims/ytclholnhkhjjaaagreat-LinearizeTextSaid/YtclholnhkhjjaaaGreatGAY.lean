/-
  Part GAY of this claim's proof. Joined by merge.py from the texts of wip/tpl.
-/
import Derived.Test.YtclholnhkhjjaaaGreatGAK
import Derived.Test.YtclholnhkhjjaaaGreatGAX
set_option linter.unusedVariables false
set_option linter.unusedSimpArgs false
set_option linter.unnecessarySimpa false
namespace Go.Proofs.Lg
open Go Go.Ab Go.Bb Go.RowKit Go.Proofs.Lh
def dMt (m : Mt) : List D := [.sc (.int .i64 m.a), .sc (.int .i64 m.b), .sc (.int .i64 m.len)]
def dMts (l : List Mt) : D := .sl 3 (l.map dMt)
def dHk (h : Hk) : List D := [.sc (.int .i64 h.pos), dStrs h.old, dStrs h.new]
def dHks (l : List Hk) : D := .sl 3 (l.map dHk)
theorem gtN (a b : Nat) : decide ((a : Int) > (b : Int)) = decide (b < a) := by
 by_cases h : b < a <;> simp [h] <;> omega
def hOne (a b : List ByteArray) (i k x y : Nat) : List Hk := if x > i ∨ y > k then [⟨i, (a.take x).drop i, (b.take y).drop k⟩] else []
theorem hGo_nil (a b : List ByteArray) (i k : Nat) : hGo a b i k [] = hOne a b i k a.length b.length := by
 unfold hGo hOne
 rw [List.take_length, List.take_length]
theorem hGo_cons (a b : List ByteArray) (i k : Nat) (m : Mt) (l : List Mt) : hGo a b i k (m :: l) = hOne a b i k m.a m.b ++ hGo a b (m.a + m.len) (m.b + m.len) l := rfl
set_option maxRecDepth 10000 in
set_option maxHeartbeats 1000000 in
theorem refOf08_fn (a b : List ByteArray) (l : List Mt) (h : MFrom a b 0 0 true l) (ha : a.length ≤ 1000000) (hb : b.length ≤ 1000000) (hl : l.length ≤ 1000000) (hck : AFn Tryz.prog 100 [dStrs a, dStrs b, dMts l] (.sc (.int .i64 0))) :
   AFn Tryz.prog 61 [dStrs a, dStrs b, dMts l] (.tup [dHks (hGo a b 0 0 l), .sc (.int .i64 0)]) := by
 have q1 : ((0 : Int) != 0) = false := by decide
 generalize hR : hGo a b 0 0 l = R
 refine AFn_of (F := k_refOf08) (okb_refOf08.trans (by kernel_rfl)) (by simp [k_refOf08]) ?_
 simp only [k_refOf08, roomOk, ↓Both_true, ↓Both_false, wx, reduceCtorEq, reduceIte, Nat.reduceAdd, Nat.reduceEqDiff, Nat.reduceLT, Nat.reduceLeDiff, wj, ← List.map_take, ← List.map_drop]
 refine CallM.data hck rfl ?_
 simp only [q1, dStrs, dMts, dHks, roomOk, ↓Both_true, ↓Both_false, wx, reduceCtorEq, reduceIte, Nat.reduceAdd, Nat.reduceEqDiff, Nat.reduceLT, Nat.reduceLeDiff, wj, ← List.map_take, ← List.map_drop]
 refine LoopK.at (fun s : Nat × Nat × Nat × List Hk × List AObj => [(12, .d (.sc (.int .i64 s.1))), (10, .d (.sc (.int .i64 s.2.1))), (11, .d (.sc (.int .i64 s.2.2.1))), (9, .tsl 0 3 (s.2.2.2.1.map dHk)), (0, .d (.sl 1 (a.map strow))), (1, .d (.sl 1 (b.map strow))), (2, .d (.sl 3 (l.map dMt)))])
   (fun s => .row 109 3 s.2.2.2.1.length :: s.2.2.2.2)
   (fun mm s => mm + s.1 = l.length + 1 ∧ s.2.2.2.1.length ≤ s.1 ∧ ((s.1 ≤ l.length ∧ s.2.2.2.1 ++ hGo a b s.2.1 s.2.2.1 (l.drop s.1) = R ∧ ∃ f, MFrom a b s.2.1 s.2.2.1 f (l.drop s.1) ∧ s.2.1 ≤ a.length ∧ s.2.2.1 ≤ b.length) ∨ (s.1 = l.length + 1 ∧ s.2.2.2.1 = R)))
   (l.length + 1) (0, 0, 0, [], []) (by simp [SubB, Go.Bb.look]) rfl ⟨rfl, Nat.le_refl _, .inl ⟨Nat.zero_le _, hR, true, h, Nat.zero_le _, Nat.zero_le _⟩⟩ ?_
 rintro mm ⟨j, i, k, out, J⟩ ⟨hm, hol, hs⟩
 dsimp only at hm hol hs ⊢
 rcases hs with ⟨hj, hout, f, hM, hia, hkb⟩ | ⟨hj, hout⟩
 · have f1 : decide ((j : Int) ≤ (l.length : Int)) = true := by simpa using hj
   have f3 : IntKind.i64.wrap ((j : Int) + 1) = ((j + 1 : Nat) : Int) := wrapN (by omega) (by omega)
   obtain ⟨p1, p2, p3, p4⟩ := sizes56 (k := out.length) (by omega)
   have hone : ∀ x y, (x > i ∨ y > k) → hOne a b i k x y = [⟨i, (a.take x).drop i, (b.take y).drop k⟩] := fun x y hc => if_pos hc
   have hnone : ∀ x y, ¬ (x > i ∨ y > k) → hOne a b i k x y = [] := fun x y hc => if_neg hc
   by_cases hlt : j < l.length
   · have f2 : decide ((j : Int) < (l.length : Int)) = true := by simpa using hlt
     have f4 : l[j]? = some l[j] := List.getElem?_eq_getElem hlt
     have hd : l.drop j = l[j] :: l.drop (j + 1) := List.drop_eq_getElem_cons hlt
     rw [hd] at hout hM
     generalize l[j] = m at f4 hout hM
     rw [hGo_cons] at hout
     obtain ⟨⟨o1, o2, o3, o4⟩, m1, m2, m3, m4⟩ := hM
     obtain ⟨x, y, n⟩ := m
     dsimp only at o1 o2 o3 o4 m1 m2 m3 m4 hout
     have g1 : IntKind.i64.wrap ((x : Int) + (n : Int)) = ((x + n : Nat) : Int) := by rw [wrap64_id (by omega) (by omega)]; omega
     have g2 : IntKind.i64.wrap ((y : Int) + (n : Int)) = ((y + n : Nat) : Int) := by rw [wrap64_id (by omega) (by omega)]; omega
     have i1 : (i : Int) ≤ (x : Int) := by omega
     have i2 : (x : Int) ≤ (a.length : Int) := by omega
     have i3 : (k : Int) ≤ (y : Int) := by omega
     have i4 : (y : Int) ≤ (b.length : Int) := by omega
     by_cases c1 : i < x
     · have e1 : decide (i < x) = true := by simpa using c1
       simp only [f1, f2, f4, e1, gtN, dMt, roomOk, ↓Both_true, ↓Both_false, wx, reduceCtorEq, reduceIte, Nat.reduceAdd, Nat.reduceEqDiff, Nat.reduceLT, Nat.reduceLeDiff, wj, ← List.map_take, ← List.map_drop]
       refine ⟨rfl, ?_⟩
       try simp only [f1, f3, f2, f4, e1, gtN, i1, i2, i3, i4, g1, g2, p1, p2, p3, p4, dMt, dStrs, zleN, roomOk, ↓Both_true, ↓Both_false, wx, reduceCtorEq, reduceIte, Nat.reduceAdd, Nat.reduceEqDiff, Nat.reduceLT, Nat.reduceLeDiff, wj, ← List.map_take, ← List.map_drop]
       refine ⟨rfl, mm - 1, (j + 1, x + n, y + n, out ++ [⟨i, (a.take x).drop i, (b.take y).drop k⟩], J ++ [.row 109 3 1]), by omega, ⟨rfl, rfl, rfl, by rw [List.map_append]; rfl⟩, by rw [List.length_append]; rfl, by dsimp only; omega, by dsimp only; rw [List.length_append]; simp; omega, .inl ⟨by dsimp only; omega, by rw [hone x y (.inl (by omega))] at hout; rw [← List.append_assoc] at hout; exact hout, false, m4, o2, o3⟩⟩
     · have e1 : decide (i < x) = false := by simpa using c1
       by_cases c2 : k < y
       · have e2 : decide (k < y) = true := by simpa using c2
         simp only [f1, f2, f4, e1, e2, gtN, dMt, roomOk, ↓Both_true, ↓Both_false, wx, reduceCtorEq, reduceIte, Nat.reduceAdd, Nat.reduceEqDiff, Nat.reduceLT, Nat.reduceLeDiff, wj, ← List.map_take, ← List.map_drop]
         refine ⟨rfl, ?_⟩
         try simp only [f1, f3, f2, f4, e1, e2, gtN, i1, i2, i3, i4, g1, g2, p1, p2, p3, p4, dMt, dStrs, zleN, roomOk, ↓Both_true, ↓Both_false, wx, reduceCtorEq, reduceIte, Nat.reduceAdd, Nat.reduceEqDiff, Nat.reduceLT, Nat.reduceLeDiff, wj, ← List.map_take, ← List.map_drop]
         refine ⟨rfl, mm - 1, (j + 1, x + n, y + n, out ++ [⟨i, (a.take x).drop i, (b.take y).drop k⟩], J ++ [.row 109 3 1]), by omega, ⟨rfl, rfl, rfl, by rw [List.map_append]; rfl⟩, by rw [List.length_append]; rfl, by dsimp only; omega, by dsimp only; rw [List.length_append]; simp; omega, .inl ⟨by dsimp only; omega, by rw [hone x y (.inr (by omega))] at hout; rw [← List.append_assoc] at hout; exact hout, false, m4, o2, o3⟩⟩
       · have e2 : decide (k < y) = false := by simpa using c2
         simp only [f1, f2, f4, e1, e2, gtN, dMt, roomOk, ↓Both_true, ↓Both_false, wx, reduceCtorEq, reduceIte, Nat.reduceAdd, Nat.reduceEqDiff, Nat.reduceLT, Nat.reduceLeDiff, wj, ← List.map_take, ← List.map_drop]
         refine ⟨rfl, ?_⟩
         try simp only [f1, f3, f2, f4, e1, e2, gtN, i1, i2, i3, i4, g1, g2, p1, p2, p3, p4, dMt, dStrs, zleN, roomOk, ↓Both_true, ↓Both_false, wx, reduceCtorEq, reduceIte, Nat.reduceAdd, Nat.reduceEqDiff, Nat.reduceLT, Nat.reduceLeDiff, wj, ← List.map_take, ← List.map_drop]
         refine ⟨mm - 1, (j + 1, x + n, y + n, out, J), by omega, ⟨rfl, rfl, rfl, rfl⟩, rfl, by dsimp only; omega, by dsimp only; omega, .inl ⟨by dsimp only; omega, by rw [hnone x y (by omega), List.nil_append] at hout; exact hout, false, m4, o2, o3⟩⟩
   · have hje : j = l.length := by omega
     have f2 : decide ((j : Int) < (l.length : Int)) = false := by simpa using hlt
     have hd : l.drop j = [] := List.drop_eq_nil_of_le (by omega)
     rw [hd, hGo_nil] at hout
     have g1 : IntKind.i64.wrap ((a.length : Int) + 0) = ((a.length : Nat) : Int) := by rw [wrap64_id (by omega) (by omega)]; omega
     have g2 : IntKind.i64.wrap ((b.length : Int) + 0) = ((b.length : Nat) : Int) := by rw [wrap64_id (by omega) (by omega)]; omega
     have i1 : (i : Int) ≤ (a.length : Int) := by omega
     have i2 : (a.length : Int) ≤ (a.length : Int) := Int.le_refl _
     have i3 : (k : Int) ≤ (b.length : Int) := by omega
     have i4 : (b.length : Int) ≤ (b.length : Int) := Int.le_refl _
     by_cases c1 : i < a.length
     · have e1 : decide (i < a.length) = true := by simpa using c1
       simp only [f1, f3, f2, e1, gtN, i1, i2, i3, i4, g1, g2, p1, p2, p3, p4, dMt, dStrs, zleN, roomOk, ↓Both_true, ↓Both_false, wx, reduceCtorEq, reduceIte, Nat.reduceAdd, Nat.reduceEqDiff, Nat.reduceLT, Nat.reduceLeDiff, wj, ← List.map_take, ← List.map_drop]
       refine ⟨rfl, mm - 1, (j + 1, a.length, b.length, out ++ [⟨i, a.drop i, b.drop k⟩], J ++ [.row 109 3 1]), by omega, ⟨rfl, rfl, rfl, by rw [List.map_append]; rfl⟩, by rw [List.length_append]; rfl, by dsimp only; omega, by dsimp only; rw [List.length_append]; simp; omega, .inr ⟨by dsimp only; omega, by rw [hone a.length b.length (.inl (by omega)), List.take_length, List.take_length] at hout; exact hout⟩⟩
     · have e1 : decide (i < a.length) = false := by simpa using c1
       by_cases c2 : k < b.length
       · have e2 : decide (k < b.length) = true := by simpa using c2
         simp only [f1, f3, f2, e1, e2, gtN, i1, i2, i3, i4, g1, g2, p1, p2, p3, p4, dMt, dStrs, zleN, roomOk, ↓Both_true, ↓Both_false, wx, reduceCtorEq, reduceIte, Nat.reduceAdd, Nat.reduceEqDiff, Nat.reduceLT, Nat.reduceLeDiff, wj, ← List.map_take, ← List.map_drop]
         refine ⟨rfl, mm - 1, (j + 1, a.length, b.length, out ++ [⟨i, a.drop i, b.drop k⟩], J ++ [.row 109 3 1]), by omega, ⟨rfl, rfl, rfl, by rw [List.map_append]; rfl⟩, by rw [List.length_append]; rfl, by dsimp only; omega, by dsimp only; rw [List.length_append]; simp; omega, .inr ⟨by dsimp only; omega, by rw [hone a.length b.length (.inr (by omega)), List.take_length, List.take_length] at hout; exact hout⟩⟩
       · have e2 : decide (k < b.length) = false := by simpa using c2
         simp only [f1, f2, e1, e2, gtN, dMt, roomOk, ↓Both_true, ↓Both_false, wx, reduceCtorEq, reduceIte, Nat.reduceAdd, Nat.reduceEqDiff, Nat.reduceLT, Nat.reduceLeDiff, wj, ← List.map_take, ← List.map_drop]
         try simp only [f1, f3, f2, e1, e2, gtN, i1, i2, i3, i4, g1, g2, p1, p2, p3, p4, dMt, dStrs, zleN, roomOk, ↓Both_true, ↓Both_false, wx, reduceCtorEq, reduceIte, Nat.reduceAdd, Nat.reduceEqDiff, Nat.reduceLT, Nat.reduceLeDiff, wj, ← List.map_take, ← List.map_drop]
         refine ⟨mm - 1, (j + 1, a.length, b.length, out, J), by omega, ⟨rfl, rfl, rfl, rfl⟩, rfl, by dsimp only; omega, by dsimp only; omega, .inr ⟨by dsimp only; omega, by rw [hnone a.length b.length (by omega)] at hout; rw [List.append_nil] at hout; exact hout⟩⟩
 · have f1 : decide ((j : Int) ≤ (l.length : Int)) = false := by simp; omega
   simp only [f1, hout, roomOk, ↓Both_true, ↓Both_false, wx, reduceCtorEq, reduceIte, Nat.reduceAdd, Nat.reduceEqDiff, Nat.reduceLT, Nat.reduceLeDiff, wj, ← List.map_take, ← List.map_drop]
end Go.Proofs.Lg

namespace Go.Proofs.Lg
open Go Go.Ab Go.Bb Go.RowKit Go.Proofs.Lh
structure TReg where
 conflict : Bool
 lines : List ByteArray
 sides : List (List ByteArray)
def treg (ls : List Vtx) (r : Reg) : TReg := ⟨r.conflict, txtL ls r.lines, r.sides.map (txtL ls)⟩
def tsrow (s : List ByteArray) : List D := [dStrs s]
def dTReg (r : TReg) : List D := [.sc (.bool r.conflict), dStrs r.lines, .sl 1 (r.sides.map tsrow)]
def dTRegs (l : List TReg) : D := .sl 3 (l.map dTReg)
def TFits (r : TReg) : Prop := r.lines.length ≤ 1000000 ∧ r.sides.length ≤ 1000000 ∧ ∀ s ∈ r.sides, s.length ≤ 1000000
theorem keyB (b : Bool) : AV.key false (.d (.sc (.bool b))) = some [.bool b] := rfl
theorem eqB (a b : Bool) : eqKs [.b] [.bool a] [.bool b] = some (a == b) := by cases a <;> cases b <;> rfl
set_option maxRecDepth 10000 in
set_option maxHeartbeats 1000000 in
theorem refSame22_fn (l : List TReg) (hll : l.length ≤ 1000000) (hf : ∀ r ∈ l, TFits r) : AFn Tryz.prog 22 [dTRegs l, dTRegs l] (dBool true) := by
 have h0 : ((l.length : Int) != (l.length : Int)) = false := by simp
 refine AFn_of (F := k_refSame22) (okb_refSame22.trans (by kernel_rfl)) (by simp [k_refSame22]) ?_
 simp only [k_refSame22, dTRegs, dBool, h0, ↓Both_true, ↓Both_false, wx, reduceCtorEq, reduceIte, Nat.reduceAdd, Nat.reduceEqDiff, Nat.reduceLT, Nat.reduceLeDiff, wj, ← List.map_take, ← List.map_drop]
 refine LoopK.count (fun k => [(5, .d (.sc (.int .i64 k))), (0, .d (.sl 3 (l.map dTReg))), (1, .d (.sl 3 (l.map dTReg)))]) (fun _ => []) (fun _ => True) l.length (by simp [SubB, Go.Bb.look]) rfl trivial fun k hk _ => ?_
 by_cases hlt : k < l.length
 · have h1 : decide ((k : Int) < (l.length : Int)) = true := by simpa using hlt
   have h2 : l[k]? = some l[k] := List.getElem?_eq_getElem hlt
   have h3 : IntKind.i64.wrap ((k : Int) + 1) = ((k + 1 : Nat) : Int) := wrapN (by omega) (by omega)
   have hfr := hf l[k] (List.getElem_mem _)
   generalize l[k] = r at h2 hfr
   obtain ⟨cf, ln, sd⟩ := r
   obtain ⟨f1, f2, f3⟩ := hfr
   dsimp only at f1 f2 f3
   have hc := refSame04_fn ln f1
   have h4 : (true != (cf == cf)) = false := by cases cf <;> rfl
   have h5 : ((sd.length : Int) != (sd.length : Int)) = false := by simp
   simp only [h1, h2, beq_self_eq_true, dTReg, dStrs, keyB, eqB, ↓Both_true, ↓Both_false, wx, reduceCtorEq, reduceIte, Nat.reduceAdd, Nat.reduceEqDiff, Nat.reduceLT, Nat.reduceLeDiff, wj, ← List.map_take, ← List.map_drop]
   refine CallM.data hc rfl ?_
   simp only [h2, h5, dBool, dTReg, dStrs, ↓Both_true, ↓Both_false, wx, reduceCtorEq, reduceIte, Nat.reduceAdd, Nat.reduceEqDiff, Nat.reduceLT, Nat.reduceLeDiff, wj, ← List.map_take, ← List.map_drop]
   refine ⟨rfl, ?_⟩
   refine LoopK.count (fun m => [(6, .d (.sc (.int .i64 m))), (5, .d (.sc (.int .i64 k))), (0, .d (.sl 3 (l.map dTReg))), (1, .d (.sl 3 (l.map dTReg)))]) (fun _ => []) (fun _ => True) sd.length (by simp [SubB, Go.Bb.look, dTReg]) rfl trivial fun m hm _ => ?_
   by_cases hlm : m < sd.length
   · have e1 : decide ((m : Int) < (sd.length : Int)) = true := by simpa using hlm
     have e2 : sd[m]? = some sd[m] := List.getElem?_eq_getElem hlm
     have e3 : IntKind.i64.wrap ((m : Int) + 1) = ((m + 1 : Nat) : Int) := wrapN (by omega) (by omega)
     have hc2 := refSame04_fn sd[m] (f3 _ (List.getElem_mem _))
     generalize sd[m] = s at e2 hc2
     simp only [h2, e1, e2, dTReg, tsrow, dStrs, ↓Both_true, ↓Both_false, wx, reduceCtorEq, reduceIte, Nat.reduceAdd, Nat.reduceEqDiff, Nat.reduceLT, Nat.reduceLeDiff, wj, ← List.map_take, ← List.map_drop]
     refine CallM.data hc2 rfl ?_
     simp only [h2, e1, e2, e3, hlm, dBool, dTReg, tsrow, dStrs, ↓Both_true, ↓Both_false, wx, reduceCtorEq, reduceIte, Nat.reduceAdd, Nat.reduceEqDiff, Nat.reduceLT, Nat.reduceLeDiff, wj, ← List.map_take, ← List.map_drop]
     rfl
   · have e1 : decide ((m : Int) < (sd.length : Int)) = false := by simpa using hlm
     simp only [h2, h3, e1, hlt, dTReg, tsrow, dStrs, ↓Both_true, ↓Both_false, wx, reduceCtorEq, reduceIte, Nat.reduceAdd, Nat.reduceEqDiff, Nat.reduceLT, Nat.reduceLeDiff, wj, ← List.map_take, ← List.map_drop]
 · have h1 : decide ((k : Int) < (l.length : Int)) = false := by simpa using hlt
   simp only [h1, ↓Both_true, ↓Both_false, wx, reduceCtorEq, reduceIte, Nat.reduceAdd, Nat.reduceEqDiff, Nat.reduceLT, Nat.reduceLeDiff, wj, ← List.map_take, ← List.map_drop]
def HFits (h : Hk) : Prop := h.old.length ≤ 1000000 ∧ h.new.length ≤ 1000000
set_option maxRecDepth 10000 in
set_option maxHeartbeats 1000000 in
theorem refSame08_fn (l : List Hk) (hll : l.length ≤ 1000000) (hf : ∀ h ∈ l, HFits h) : AFn Tryz.prog 25 [dHks l, dHks l] (dBool true) := by
 have h0 : ((l.length : Int) != (l.length : Int)) = false := by simp
 refine AFn_of (F := k_refSame08) (okb_refSame08.trans (by kernel_rfl)) (by simp [k_refSame08]) ?_
 simp only [k_refSame08, dHks, dBool, h0, ↓Both_true, ↓Both_false, wx, reduceCtorEq, reduceIte, Nat.reduceAdd, Nat.reduceEqDiff, Nat.reduceLT, Nat.reduceLeDiff, wj, ← List.map_take, ← List.map_drop]
 refine LoopK.count (fun k => [(5, .d (.sc (.int .i64 k))), (0, .d (.sl 3 (l.map dHk))), (1, .d (.sl 3 (l.map dHk)))]) (fun _ => []) (fun _ => True) l.length (by simp [SubB, Go.Bb.look]) rfl trivial fun k hk _ => ?_
 by_cases hlt : k < l.length
 · have h1 : decide ((k : Int) < (l.length : Int)) = true := by simpa using hlt
   have h2 : l[k]? = some l[k] := List.getElem?_eq_getElem hlt
   have h3 : IntKind.i64.wrap ((k : Int) + 1) = ((k + 1 : Nat) : Int) := wrapN (by omega) (by omega)
   have hfr := hf l[k] (List.getElem_mem _)
   generalize l[k] = r at h2 hfr
   obtain ⟨ps, od, nw⟩ := r
   obtain ⟨f1, f2⟩ := hfr
   dsimp only at f1 f2
   have hc1 := refSame04_fn od f1
   have hc2 := refSame04_fn nw f2
   have h4 : ((ps : Int) != (ps : Int)) = false := by simp
   simp only [h1, h2, h4, dHk, dStrs, ↓Both_true, ↓Both_false, wx, reduceCtorEq, reduceIte, Nat.reduceAdd, Nat.reduceEqDiff, Nat.reduceLT, Nat.reduceLeDiff, wj, ← List.map_take, ← List.map_drop]
   refine CallM.data hc1 rfl ?_
   simp only [h2, dBool, dHk, dStrs, ↓Both_true, ↓Both_false, wx, reduceCtorEq, reduceIte, Nat.reduceAdd, Nat.reduceEqDiff, Nat.reduceLT, Nat.reduceLeDiff, wj, ← List.map_take, ← List.map_drop]
   refine CallM.data hc2 rfl ?_
   simp only [h2, h3, hlt, dBool, dHk, dStrs, ↓Both_true, ↓Both_false, wx, reduceCtorEq, reduceIte, Nat.reduceAdd, Nat.reduceEqDiff, Nat.reduceLT, Nat.reduceLeDiff, wj, ← List.map_take, ← List.map_drop]
   rfl
 · have h1 : decide ((k : Int) < (l.length : Int)) = false := by simpa using hlt
   simp only [h1, ↓Both_true, ↓Both_false, wx, reduceCtorEq, reduceIte, Nat.reduceAdd, Nat.reduceEqDiff, Nat.reduceLT, Nat.reduceLeDiff, wj, ← List.map_take, ← List.map_drop]
end Go.Proofs.Lg

namespace Go.Proofs.Lg
open Go Go.Ab Go.Bb Go.RowKit Go.Proofs.Lh
def textS (A R : AObj) (J : List AObj) (cf : Bool) (ln : D) (done : List (List D)) (j : AObj) (K : List AObj) : List AObj :=
 if done = [] then A :: R :: (J ++ [.cells [.d (.sc (.bool cf)), .d ln, .nil 1]]) else A :: R :: (J ++ (.cells [.d (.sc (.bool cf)), .d ln, .tsl (J.length + 2 + 1 + 1) 1 done] :: j :: .row 56 1 done.length :: K))
theorem textS_nil (A R j : AObj) (J K : List AObj) (cf : Bool) (ln : D) : textS A R J cf ln [] j K = A :: R :: (J ++ [.cells [.d (.sc (.bool cf)), .d ln, .nil 1]]) := if_pos rfl
theorem textS_cons (A R j : AObj) (J K : List AObj) (cf : Bool) (ln : D) {done : List (List D)} (h : done ≠ []) : textS A R J cf ln done j K = A :: R :: (J ++ (.cells [.d (.sc (.bool cf)), .d ln, .tsl (J.length + 2 + 1 + 1) 1 done] :: j :: .row 56 1 done.length :: K)) := if_neg h
theorem cntA {mm m n : Nat} (h : mm + m = n) (hl : m < n) : mm - 1 < mm ∧ mm - 1 + (m + 1) = n := by omega
theorem sizes24 {k : Nat} (h : k ≤ 1000000) : (k + 1) * 24 ≤ 140737488355328 ∧ k ≤ 9223372036854775806 := by omega
theorem len_flat' : ∀ (l : List (List Nat)) (s : List Nat), s ∈ l → s.length ≤ l.flatten.length
 | [], _, h => absurd h (by simp)
 | t :: l, s, h => by
   rw [List.flatten_cons, List.length_append]
   rcases List.mem_cons.1 h with rfl | h
   · omega
   · have := len_flat' l s h; omega
set_option maxRecDepth 10000 in
set_option maxRecDepth 10000 in
set_option maxHeartbeats 1000000 in
theorem refText_fn {g : Gr} (hg : GrOk g) (hn : (regionsL g.reach g.living).length ≤ 1000000) (hr : ∀ r ∈ regionsL g.reach g.living, (∀ i ∈ r.all, i < g.lines.length) ∧ r.all.length ≤ 1000000 ∧ r.sides.length ≤ 1000000) :
   AFn Tryz.prog 24 [dGraph g] (dTRegs ((regionsL g.reach g.living).map (treg g.lines))) := by
 have hreg := Regions_fn hg
 have htx : ∀ l : List Nat, (∀ i ∈ l, i < g.lines.length) → l.length ≤ 1000000 → AFn Tryz.prog 62 [dGraph g, dNats l] (dStrs (txtL g.lines l)) := fun l h1 h2 => refTexts_fn hg h1 h2
 generalize regionsL g.reach g.living = regs at *
 refine AFn_of (F := k_refText) (okb_refText.trans (by kernel_rfl)) (by simp [k_refText]) ?_
 simp only [k_refText, dGraph, roomOk, ↓Both_true, ↓Both_false, wx, reduceCtorEq, reduceIte, Nat.reduceAdd, Nat.reduceEqDiff, Nat.reduceLT, Nat.reduceLeDiff, wj, ← List.map_take, ← List.map_drop]
 refine CallM.data hreg rfl ?_
 simp only [dRegs, dTRegs, roomOk, ↓Both_true, ↓Both_false, wx, reduceCtorEq, reduceIte, Nat.reduceAdd, Nat.reduceEqDiff, Nat.reduceLT, Nat.reduceLeDiff, wj, ← List.map_take, ← List.map_drop]
 refine LoopK.countJ (fun k => [(5, .d (.sc (.int .i64 k))), (4, .d (.sl 3 (regs.map dReg))), (1, .ptr 0 0), (3, .tsl 1 3 (((regs.take k).map (treg g.lines)).map dTReg))]) (fun k J => .cells [.d (dLines g.lines), .d (dEdges g.edges)] :: .row 107 3 ((regs.take k).map (treg g.lines)).length :: J) (fun _ => True) regs.length [] (by simp [SubB, Go.Bb.look]) rfl trivial fun k J hk _ => ?_
 by_cases hlt : k < regs.length
 · have h1 : decide ((k : Int) < (regs.length : Int)) = true := by simpa using hlt
   have h2 : regs[k]? = some regs[k] := List.getElem?_eq_getElem hlt
   have h3 : IntKind.i64.wrap ((k : Int) + 1) = ((k + 1 : Nat) : Int) := wrapN (by omega) (by omega)
   obtain ⟨hr1, hr2, hr3⟩ := hr regs[k] (List.getElem_mem _)
   have h4 : regs.take (k + 1) = regs.take k ++ [regs[k]] := List.take_succ_eq_append_getElem hlt
   have hlen : ((regs.take k).map (treg g.lines)).length ≤ 4000000 := by rw [List.length_map, List.length_take]; omega
   generalize regs[k] = r at h2 h4 hr1 hr2 hr3
   obtain ⟨cf, ln, sd⟩ := r
   unfold Reg.all at hr1 hr2
   dsimp only at hr1 hr2 hr3
   rw [List.length_append] at hr2
   have hc := htx ln (fun i hi => hr1 i (List.mem_append_left _ hi)) (by omega)
   have hlen' : (regs.take k).length ≤ 4000000 := by rw [List.length_map] at hlen; exact hlen
   obtain ⟨p1, p2, p3, p4⟩ := sizes56 hlen'
   have h24 : 1 * 24 ≤ 140737488355328 := by decide
   simp only [h1, h2, dReg, dNats, roomOk, ↓Both_true, ↓Both_false, wx, reduceCtorEq, reduceIte, Nat.reduceAdd, Nat.reduceEqDiff, Nat.reduceLT, Nat.reduceLeDiff, wj, ← List.map_take, ← List.map_drop]
   refine CallM.data hc rfl ?_
   simp only [dStrs, roomOk, ↓Both_true, ↓Both_false, wx, reduceCtorEq, reduceIte, Nat.reduceAdd, Nat.reduceEqDiff, Nat.reduceLT, Nat.reduceLeDiff, wj, ← List.map_take, ← List.map_drop]
   refine ⟨(ordF_coarse (by simp only [List.map_cons, List.map_nil, coarse_rd, coarse_wr]; rfl)), ?_⟩
   have hrw : ∀ m, m < sd.length → (sd.take (m + 1)).map (fun s => tsrow (txtL g.lines s)) = (sd.take m).map (fun s => tsrow (txtL g.lines s)) ++ [tsrow (txtL g.lines (sd.getD m []))] := fun m hm => by
     rw [List.take_succ_eq_append_getElem hm, List.map_append]; simp [hm]
   refine LoopK.at (fun b : Nat × AObj × List AObj => [(7, .d (.sc (.int .i64 b.1))), (6, .ptr (J.length + 1 + 1) 0), (5, .d (.sc (.int .i64 k))), (4, .d (.sl 3 (regs.map dReg))), (1, .ptr 0 0), (3, .tsl 1 3 (((regs.take k).map (treg g.lines)).map dTReg))])
     (fun b => textS (.cells [.d (dLines g.lines), .d (dEdges g.edges)]) (.row 107 3 (regs.take k).length) J cf (.sl 1 ((txtL g.lines ln).map strow)) ((sd.take b.1).map fun s => tsrow (txtL g.lines s)) b.2.1 b.2.2)
     (fun mm b => mm + b.1 = sd.length) sd.length (0, .row 0 0 0, []) (by simp [SubB, Go.Bb.look]) rfl rfl ?_
   rintro mm ⟨m, j, K⟩ hm
   dsimp only at hm ⊢
   by_cases hlm : m < sd.length
   · have e1 : decide ((m : Int) < (sd.length : Int)) = true := by simpa using hlm
     have e2 : sd[m]? = some sd[m] := List.getElem?_eq_getElem hlm
     have e3 : IntKind.i64.wrap ((m : Int) + 1) = ((m + 1 : Nat) : Int) := wrapN (by omega) (by omega)
     have hsm : sd[m] ∈ sd := List.getElem_mem _
     have hflat : sd[m].length ≤ sd.flatten.length := len_flat' sd _ hsm
     have hc2 := htx sd[m] (fun i hi => hr1 i (List.mem_append_right _ (List.mem_flatten.2 ⟨_, hsm, hi⟩))) (by omega)
     have e4 := hrw m hlm
     have e5 : sd.getD m [] = sd[m] := by simp [hlm]
     rw [e5] at e4
     generalize sd[m] = s at e2 hc2 e4
     have hlen2 : ((sd.take m).map fun s => tsrow (txtL g.lines s)).length = m := by rw [List.length_map, List.length_take]; omega
     obtain ⟨q1, q2⟩ := sizes24 (k := m) (Nat.le_trans (Nat.le_of_lt hlm) hr3)
     cases m with
     | zero =>
       simp only [List.take_zero, List.map_nil, textS_nil, e1, e2, h2, dReg, srow, dNats, roomOk, ↓Both_true, ↓Both_false, wx, reduceCtorEq, reduceIte, Nat.reduceAdd, Nat.reduceEqDiff, Nat.reduceLT, Nat.reduceLeDiff, wj, ← List.map_take, ← List.map_drop]
       refine CallM.data hc2 rfl ?_
       simp only [e2, e3, h2, h24, dReg, srow, dNats, dStrs, roomOk, ↓Both_true, ↓Both_false, wx, reduceCtorEq, reduceIte, Nat.reduceAdd, Nat.reduceEqDiff, Nat.reduceLT, Nat.reduceLeDiff, wj, ← List.map_take, ← List.map_drop]
       have e6 : (sd.take 1).map (fun s => tsrow (txtL g.lines s)) = [tsrow (txtL g.lines s)] := by simpa using e4
       refine ⟨(ordF_coarse (by simp only [List.map_cons, List.map_nil, coarse_rd, coarse_wr]; rfl)), mm - 1, (1, .row 56 1 1, []), (cntA hm hlm).1, rfl, ?_, (cntA hm hlm).2⟩
       dsimp only
       rw [e6, textS_cons _ _ _ _ _ _ _ (by simp)]
       rfl
     | succ m =>
       have q3 : m ≤ 9223372036854775805 := by clear hr2 hr3 hflat; omega
       have hne : ((sd.take (m + 1)).map fun s => tsrow (txtL g.lines s)) ≠ [] := fun e => by rw [e] at hlen2; simp at hlen2
       simp only [textS_cons _ _ _ _ _ _ _ hne, hlen2, e1, e2, h2, dReg, srow, dNats, roomOk, ↓Both_true, ↓Both_false, wx, reduceCtorEq, reduceIte, Nat.reduceAdd, Nat.reduceEqDiff, Nat.reduceLT, Nat.reduceLeDiff, wj, ← List.map_take, ← List.map_drop]
       refine CallM.data hc2 rfl ?_
       simp only [e2, e3, h2, hlen2, q1, q2, q3, dReg, srow, dNats, dStrs, roomOk, ↓Both_true, ↓Both_false, wx, reduceCtorEq, reduceIte, Nat.reduceAdd, Nat.reduceEqDiff, Nat.reduceLT, Nat.reduceLeDiff, wj, ← List.map_take, ← List.map_drop]
       refine ⟨(ordF_coarse (by simp only [List.map_cons, List.map_nil, coarse_rd, coarse_wr]; rfl)), mm - 1, (m + 1 + 1, j, K ++ [.row 56 1 1]), (cntA hm hlm).1, rfl, ?_, (cntA hm hlm).2⟩
       dsimp only
       rw [e4, textS_cons _ _ _ _ _ _ _ (by simp), List.length_append, hlen2]
       rfl
   · have e1 : decide ((m : Int) < (sd.length : Int)) = false := by simpa using hlm
     have e2 : sd.take m = sd := List.take_of_length_le (by omega)
     rw [e2]
     by_cases hne : (sd.map fun s => tsrow (txtL g.lines s)) = []
     · simp only [hne, textS_nil, e1, h2, h3, p1, p2, p3, p4, hlt, dReg, srow, dNats, dStrs, roomOk, ↓Both_true, ↓Both_false, wx, reduceCtorEq, reduceIte, Nat.reduceAdd, Nat.reduceEqDiff, Nat.reduceLT, Nat.reduceLeDiff, wj, ← List.map_take, ← List.map_drop]
       have hsd : sd = [] := List.map_eq_nil_iff.1 hne
       subst hsd
       refine ⟨?_, _, by rw [h4, List.length_append]; rfl⟩
       rw [h4, List.map_append, List.map_append]
       rfl
     · simp only [textS_cons _ _ _ _ _ _ _ hne, e1, h2, h3, p1, p2, p3, p4, hlt, dReg, srow, dNats, dStrs, roomOk, ↓Both_true, ↓Both_false, wx, reduceCtorEq, reduceIte, Nat.reduceAdd, Nat.reduceEqDiff, Nat.reduceLT, Nat.reduceLeDiff, wj, ← List.map_take, ← List.map_drop]
       refine ⟨?_, _, by rw [h4, List.length_append]; rfl⟩
       rw [h4, List.map_append, List.map_append]
       simp only [List.map_cons, List.map_nil, treg, dTReg, dStrs, List.map_map, Function.comp_def]
 · have h1 : decide ((k : Int) < (regs.length : Int)) = false := by simpa using hlt
   have h2 : regs.take k = regs := List.take_of_length_le (by omega)
   simp only [h1, h2, roomOk, ↓Both_true, ↓Both_false, wx, reduceCtorEq, reduceIte, Nat.reduceAdd, Nat.reduceEqDiff, Nat.reduceLT, Nat.reduceLeDiff, wj, ← List.map_take, ← List.map_drop]
end Go.Proofs.Lg

namespace Go.Proofs.Lg
open Go Go.Ab Go.Bb Go.RowKit Go.Proofs.Lh
theorem addN {x y : Nat} (h1 : x ≤ 1000000000000) (h2 : y ≤ 1000000000000) : IntKind.i64.wrap ((x : Int) + (y : Int)) = ((x + y : Nat) : Int) := by rw [wrap64_id (by omega) (by omega)]; omega
theorem subN {x y : Nat} (h1 : x ≤ 1000000000000) (h2 : y ≤ x) : IntKind.i64.wrap ((x : Int) - (y : Int)) = (x : Int) - (y : Int) := by rw [wrap64_id (by omega) (by omega)]
set_option maxRecDepth 10000 in
set_option maxHeartbeats 2000000 in
theorem refCheck03_fn (a b : List ByteArray) (l : List Mt) (h : MFrom a b 0 0 true l) (ha : a.length ≤ 1000000) (hb : b.length ≤ 1000000) (hl : l.length ≤ 1000000) :
   AFn Tryz.prog 100 [dStrs a, dStrs b, dMts l] (.sc (.int .i64 0)) := by
 refine AFn_of (F := k_refCheck03) (okb_refCheck03.trans (by kernel_rfl)) (by simp [k_refCheck03]) ?_
 simp only [k_refCheck03, dStrs, dMts, ↓Both_true, ↓Both_false, wx, reduceCtorEq, reduceIte, Nat.reduceAdd, Nat.reduceEqDiff, Nat.reduceLT, Nat.reduceLeDiff, wj, ← List.map_take, ← List.map_drop]
 refine LoopK.at (fun s : Nat × Nat × Nat × List AObj => [(9, .d (.sc (.int .i64 s.1))), (7, .d (.sc (.int .i64 s.2.1))), (8, .d (.sc (.int .i64 s.2.2.1))), (0, .d (.sl 1 (a.map strow))), (1, .d (.sl 1 (b.map strow))), (2, .d (.sl 3 (l.map dMt)))])
   (fun s => s.2.2.2)
   (fun mm s => mm + s.1 = l.length ∧ s.2.1 ≤ a.length ∧ s.2.2.1 ≤ b.length ∧ ∃ f, MFrom a b s.2.1 s.2.2.1 f (l.drop s.1) ∧ (f = true → s.1 = 0))
   l.length (0, 0, 0, []) (by simp [SubB, Go.Bb.look]) rfl ⟨rfl, Nat.zero_le _, Nat.zero_le _, true, h, fun _ => rfl⟩ ?_
 rintro mm ⟨i, x, y, J⟩ ⟨hm, hx, hy, f, hM, hf⟩
 dsimp only at hm hx hy hM hf ⊢
 by_cases hlt : i < l.length
 · have f1 : decide ((i : Int) < (l.length : Int)) = true := by simpa using hlt
   have f2 : l[i]? = some l[i] := List.getElem?_eq_getElem hlt
   have f3 : IntKind.i64.wrap ((i : Int) + 1) = ((i + 1 : Nat) : Int) := wrapN (by omega) (by omega)
   have hd : l.drop i = l[i] :: l.drop (i + 1) := List.drop_eq_getElem_cons hlt
   rw [hd] at hM
   generalize l[i] = m at f2 hM
   obtain ⟨⟨o1, o2, o3, o4⟩, m1, m2, m3, m4⟩ := hM
   obtain ⟨p, q, n⟩ := m
   dsimp only at o1 o2 o3 o4 m1 m2 m3 m4
   have hmm : mm - 1 < mm ∧ mm - 1 + (i + 1) = l.length := cntA hm hlt
   clear hd hm
   have g1 : decide ((n : Int) < 1) = false := by simp; omega
   have g2 : decide ((p : Int) < 0) = false := by simp
   have g3 : decide ((q : Int) < 0) = false := by simp
   have g4 : decide ((n : Int) > (a.length : Int)) = false := by simp; omega
   have g5 : decide ((n : Int) > (b.length : Int)) = false := by simp; omega
   have g6 : IntKind.i64.wrap ((a.length : Int) - (n : Int)) = (a.length : Int) - (n : Int) := subN (by omega) (by omega)
   have g7 : IntKind.i64.wrap ((b.length : Int) - (n : Int)) = (b.length : Int) - (n : Int) := subN (by omega) (by omega)
   have g8 : decide ((p : Int) > (a.length : Int) - (n : Int)) = false := by simp; omega
   have g9 : decide ((q : Int) > (b.length : Int) - (n : Int)) = false := by simp; omega
   have k1 : decide ((p : Int) < (x : Int)) = false := by simp; omega
   have k2 : decide ((q : Int) < (y : Int)) = false := by simp; omega
   have k4 : IntKind.i64.wrap ((p : Int) + (n : Int)) = ((p + n : Nat) : Int) := addN (by omega) (by omega)
   have k5 : IntKind.i64.wrap ((q : Int) + (n : Int)) = ((q + n : Nat) : Int) := addN (by omega) (by omega)
   have hcase : decide ((i : Int) > 0) = false ∨ (decide ((i : Int) > 0) = true ∧ ((p : Int) == (x : Int)) = false) ∨ (decide ((i : Int) > 0) = true ∧ ((p : Int) == (x : Int)) = true ∧ ((q : Int) == (y : Int)) = false) := by
     by_cases h0 : i = 0
     · left; simp; omega
     · have hff : f = false := by cases f with | false => rfl | true => exact absurd (hf rfl) h0
       have h00 : decide ((i : Int) > 0) = true := by simp; omega
       rcases m3 with m3 | m3
       · rw [hff] at m3; cases m3
       · by_cases hpx : p = x
         · right; right; refine ⟨h00, by simp [hpx], ?_⟩; simp; omega
         · right; left; refine ⟨h00, ?_⟩; simp; omega
   rcases hcase with c1 | ⟨c1, c2⟩ | ⟨c1, c2, c3⟩
   all_goals (
     simp only [*, dMt, ↓Both_true, ↓Both_false, wx, reduceCtorEq, reduceIte, Nat.reduceAdd, Nat.reduceEqDiff, Nat.reduceLT, Nat.reduceLeDiff, wj, ← List.map_take, ← List.map_drop]
     refine LoopK.count (fun k => [(11, .d (.sc (.int .i64 k))), (10, .ptr J.length 0), (9, .d (.sc (.int .i64 i))), (0, .d (.sl 1 (a.map strow))), (1, .d (.sl 1 (b.map strow))), (2, .d (.sl 3 (l.map dMt)))]) (fun _ => J ++ [.cells [.d (.sc (.int .i64 p)), .d (.sc (.int .i64 q)), .d (.sc (.int .i64 n))]]) (fun _ => True) n (by simp [SubB, Go.Bb.look]) rfl trivial fun k hk _ => ?_
     by_cases hlk : k < n
     · have e1 : decide ((k : Int) < (n : Int)) = true := by simpa using hlk
       have e3 : IntKind.i64.wrap ((k : Int) + 1) = ((k + 1 : Nat) : Int) := wrapN (by omega) (by omega)
       have e4 : IntKind.i64.wrap ((p : Int) + (k : Int)) = ((p + k : Nat) : Int) := addN (by omega) (by omega)
       have e5 : IntKind.i64.wrap ((q : Int) + (k : Int)) = ((q + k : Nat) : Int) := addN (by omega) (by omega)
       have hpk : p + k < a.length := by omega
       have e6 : a[p + k]? = some a[p + k] := List.getElem?_eq_getElem hpk
       have e7 : b[q + k]? = some a[p + k] := by rw [← o4 k hlk]; exact e6
       generalize a[p + k] = s at e6 e7
       have e8 : (!(s.toList == s.toList)) = false := by simp
       simp only [e1, e3, e4, e5, e6, e7, e8, hlk, strow, ↓Both_true, ↓Both_false, wx, reduceCtorEq, reduceIte, Nat.reduceAdd, Nat.reduceEqDiff, Nat.reduceLT, Nat.reduceLeDiff, wj, ← List.map_take, ← List.map_drop]
       exact (ordF_coarse (by simp only [List.map_cons, List.map_nil, coarse_rd, coarse_wr]; rfl))
     · have e1 : decide ((k : Int) < (n : Int)) = false := by simpa using hlk
       simp only [e1, k4, k5, f3, ↓Both_true, ↓Both_false, wx, reduceCtorEq, reduceIte, Nat.reduceAdd, Nat.reduceEqDiff, Nat.reduceLT, Nat.reduceLeDiff, wj, ← List.map_take, ← List.map_drop]
       refine ⟨(ordF_coarse (by simp only [List.map_cons, List.map_nil, coarse_rd, coarse_wr]; rfl)), mm - 1, (i + 1, p + n, q + n, J ++ [.cells [.d (.sc (.int .i64 p)), .d (.sc (.int .i64 q)), .d (.sc (.int .i64 n))]]), hmm.1, ⟨rfl, rfl, rfl⟩, rfl, hmm.2, o2, o3, false, m4, fun h => by cases h⟩)
 · have f1 : decide ((i : Int) < (l.length : Int)) = false := by simpa using hlt
   simp only [f1, ↓Both_true, ↓Both_false, wx, reduceCtorEq, reduceIte, Nat.reduceAdd, Nat.reduceEqDiff, Nat.reduceLT, Nat.reduceLeDiff, wj, ← List.map_take, ← List.map_drop]
end Go.Proofs.Lg
