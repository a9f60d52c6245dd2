/-
  Part GL of this claim's proof. Joined by merge.py from the texts of wip/tpl.
-/
import Derived.Test.YtjlnniaknfpgiaaGreatDoorGD
import Derived.Test.YtjlnniaknfpgiaaGreatDoorGK
set_option linter.unusedVariables false
set_option linter.unusedSimpArgs false
set_option linter.unnecessarySimpa false
namespace Go.Proofs.Lg

/-- Whether a line is in the component of another one. -/
def sameC (R : List (List Bool)) (i j : Nat) : Bool := decide (j = i) || (rel R i j && rel R j i)
theorem sameC_self (R : List (List Bool)) (i : Nat) : sameC R i i = true := by simp [sameC]
theorem sameC_symm (R : List (List Bool)) (i j : Nat) : sameC R i j = sameC R j i := by
  unfold sameC
  rw [Bool.and_comm]
  congr 1
  rw [Bool.eq_iff_iff]
  simp only [decide_eq_true_eq]
  exact ⟨fun h => h.symm, fun h => h.symm⟩
theorem sameC_trans {n : Nat} {R : List (List Bool)} (ht : TransR n R) {i j k : Nat} (hi : i < n) (hj : j < n) (hk : k < n) (h1 : sameC R i j = true) (h2 : sameC R j k = true) : sameC R i k = true := by
  unfold sameC at h1 h2 ⊢
  simp only [Bool.or_eq_true, decide_eq_true_eq, Bool.and_eq_true] at h1 h2 ⊢
  rcases h1 with rfl | ⟨a, b⟩
  · exact h2
  · rcases h2 with rfl | ⟨c, d⟩
    · exact .inr ⟨a, b⟩
    · exact .inr ⟨ht _ _ _ hi hj hk a c, ht _ _ _ hk hj hi d b⟩

/-- The component of a line, of those that come first the first m, and who is in one of them. -/
def compRow (R : List (List Bool)) (n i : Nat) : List Nat := (List.range n).filter (sameC R i)
def firstB (R : List (List Bool)) (i : Nat) : Bool := (List.range i).all fun j => !sameC R i j
def compsTo (R : List (List Bool)) (n m : Nat) : List (List Nat) := ((List.range m).filter (firstB R)).map (compRow R n)
def doneTo (R : List (List Bool)) (n m : Nat) : List Bool := (List.range n).map fun k => (List.range m).any fun j => sameC R j k

theorem compsTo_succ (R : List (List Bool)) (n m : Nat) : compsTo R n (m + 1) = if firstB R m = true then compsTo R n m ++ [compRow R n m] else compsTo R n m := by
  unfold compsTo
  rw [List.range_succ, List.filter_append, List.map_append]
  cases h : firstB R m <;> simp [h]
theorem compsTo_len (R : List (List Bool)) (n m : Nat) : (compsTo R n m).length ≤ m := by
  unfold compsTo
  rw [List.length_map]
  have := List.length_filter_le (firstB R) (List.range m)
  rwa [List.length_range] at this
theorem doneTo_len (R : List (List Bool)) (n m : Nat) : (doneTo R n m).length = n := by simp [doneTo]
theorem doneTo_get {R : List (List Bool)} {n m i : Nat} (hi : i < n) : (doneTo R n m)[i]? = some ((List.range m).any fun j => sameC R j i) := by
  unfold doneTo
  rw [List.getElem?_map, List.getElem?_range hi]; rfl
theorem done_first {R : List (List Bool)} (i : Nat) : ((List.range i).any fun j => sameC R j i) = !firstB R i := by
  unfold firstB
  rw [List.not_all_eq_any_not]
  congr 1
  funext j
  rw [Bool.not_not, sameC_symm]
theorem doneTo_zero (R : List (List Bool)) (n : Nat) : doneTo R n 0 = List.replicate n false := by
  rw [List.eq_replicate_iff]
  exact ⟨doneTo_len R n 0, fun b hb => by
    unfold doneTo at hb
    obtain ⟨x, _, rfl⟩ := List.mem_map.1 hb
    rfl⟩

/-- While the component of a line is being gathered. -/
def doneIn (R : List (List Bool)) (n i k : Nat) : List Bool := (List.range n).map fun x => ((List.range i).any fun j => sameC R j x) || (decide (x < k) && sameC R i x)
theorem doneIn_len (R : List (List Bool)) (n i k : Nat) : (doneIn R n i k).length = n := by simp [doneIn]
theorem doneIn_zero (R : List (List Bool)) (n i : Nat) : doneIn R n i 0 = doneTo R n i := by unfold doneIn doneTo; simp
theorem doneIn_end (R : List (List Bool)) (n i : Nat) : doneIn R n i n = doneTo R n (i + 1) := by
  unfold doneIn doneTo
  refine List.map_congr_left fun x hx => ?_
  have hx := List.mem_range.1 hx
  rw [List.range_succ, List.any_append]
  simp [hx]
theorem doneIn_succ {R : List (List Bool)} {n i k : Nat} (hk : k < n) : doneIn R n i (k + 1) = if sameC R i k = true then (doneIn R n i k).set k true else doneIn R n i k := by
  refine List.ext_getElem? fun x => ?_
  by_cases hx : x < n
  · have e : ∀ m, (doneIn R n i m)[x]? = some (((List.range i).any fun j => sameC R j x) || (decide (x < m) && sameC R i x)) := fun m => by
      unfold doneIn
      rw [List.getElem?_map, List.getElem?_range hx]; rfl
    cases hs : sameC R i k with
    | true =>
      rw [if_pos rfl, e]
      by_cases hxk : x = k
      · subst hxk
        rw [List.getElem?_set_self (by rw [doneIn_len]; exact hx), hs]
        simp
      · rw [List.getElem?_set_ne (Ne.symm hxk), e]
        have : decide (x < k + 1) = decide (x < k) := by rw [Bool.eq_iff_iff]; simp only [decide_eq_true_eq]; omega
        rw [this]
    | false =>
      rw [if_neg (by simp), e, e]
      by_cases hxk : x = k
      · subst hxk; rw [hs]; simp
      · have : decide (x < k + 1) = decide (x < k) := by rw [Bool.eq_iff_iff]; simp only [decide_eq_true_eq]; omega
        rw [this]
  · rw [List.getElem?_eq_none (by rw [doneIn_len]; omega)]
    split
    · rw [List.getElem?_eq_none (by rw [List.length_set, doneIn_len]; omega)]
    · rw [List.getElem?_eq_none (by rw [doneIn_len]; omega)]
theorem row_succ (R : List (List Bool)) (i k : Nat) : (List.range (k + 1)).filter (sameC R i) = if sameC R i k = true then (List.range k).filter (sameC R i) ++ [k] else (List.range k).filter (sameC R i) := by
  rw [List.range_succ, List.filter_append]
  cases h : sameC R i k <;> simp [h]
theorem row_len (R : List (List Bool)) (i k : Nat) : ((List.range k).filter (sameC R i)).length ≤ k := by
  have := List.length_filter_le (sameC R i) (List.range k)
  rwa [List.length_range] at this

/-- A line that is in an earlier component brings nothing new. -/
theorem doneTo_skip {n : Nat} {R : List (List Bool)} (ht : TransR n R) {i : Nat} (hi : i < n) (h : firstB R i = false) : doneTo R n (i + 1) = doneTo R n i := by
  unfold doneTo
  refine List.map_congr_left fun x hx => ?_
  have hx := List.mem_range.1 hx
  rw [List.range_succ, List.any_append]
  simp only [List.any_cons, List.any_nil, Bool.or_false]
  cases hs : sameC R i x with
  | false => rw [Bool.or_false]
  | true =>
    have h2 := done_first (R := R) i
    rw [h] at h2
    obtain ⟨j, hj, hji⟩ := List.any_eq_true.1 h2
    have hj' := List.mem_range.1 hj
    have hjx := sameC_trans ht (i := j) (j := i) (k := x) (by omega) hi hx hji hs
    rw [Bool.or_true]
    exact (List.any_eq_true.2 ⟨j, hj, hjx⟩).symm
theorem mem_compRow {R : List (List Bool)} {n i x : Nat} : x ∈ compRow R n i ↔ x < n ∧ sameC R i x = true := by unfold compRow; rw [List.mem_filter, List.mem_range]
theorem compRow_ne {R : List (List Bool)} {n i : Nat} (hi : i < n) : compRow R n i ≠ [] := List.ne_nil_of_mem (mem_compRow.2 ⟨hi, sameC_self R i⟩)

/-- The first of a component, as the reference finds it. -/
theorem first_ref (R : List (List Bool)) (n i : Nat) (hi : i < n) : (compRow R n i).all (fun j => decide (j ≥ i)) = firstB R i := by
  rw [Bool.eq_iff_iff]
  unfold firstB
  simp only [List.all_eq_true, decide_eq_true_eq, List.mem_range, Bool.not_eq_true']
  constructor
  · intro h j hj
    cases hs : sameC R i j with
    | false => rfl
    | true => have := h j (mem_compRow.2 ⟨by omega, hs⟩); omega
  · intro h j hj
    have h2 := mem_compRow.1 hj
    by_cases hlt : j < i
    · have := h j hlt; rw [h2.2] at this; cases this
    · omega
end Go.Proofs.Lg

namespace Go.Proofs.Lh
open Go Go.Bb Go.RowKit Go.Proofs.Lg
open Go.Ab (RD RDs D)

/-- A row that grows: none yet, or one of the call's own. -/
def GrowR (T sz : Nat) (s : List AObj) (v : AV) (rows : List (List Go.Ab.D)) : Prop :=
  (rows = [] ∧ v = .nil sz) ∨ (∃ id, v = .tsl id sz rows ∧ s[id]? = some (.row T sz rows.length))
theorem GrowR.nil (T sz : Nat) (s : List AObj) : GrowR T sz s (.nil sz) [] := .inl ⟨rfl, rfl⟩
theorem GrowR.deep {T sz : Nat} {s : List AObj} {v : AV} {rows : List (List Go.Ab.D)} (h : GrowR T sz s v rows) (s2 : List AObj) (n : Nat) : deepD s2 (n + 1) v = some (.sl sz rows) := by
  rcases h with ⟨rfl, rfl⟩ | ⟨id, rfl, _⟩ <;> rfl
theorem GrowR.keep {T sz : Nat} {s s' : List AObj} {v : AV} {rows : List (List Go.Ab.D)} (h : GrowR T sz s v rows) (hk : ∀ j n : Nat, s[j]? = some (AObj.row T sz n) → s'[j]? = some (AObj.row T sz n)) : GrowR T sz s' v rows := by
  rcases h with ⟨h1, h2⟩ | ⟨id, h2, h3⟩
  · exact .inl ⟨h1, h2⟩
  · exact .inr ⟨id, h2, hk _ _ h3⟩
theorem GrowR.app {T sz : Nat} {s : List AObj} {v : AV} {rows : List (List Go.Ab.D)} (h : GrowR T sz s v rows) (x : List AObj) : GrowR T sz (s ++ x) v rows :=
  h.keep fun j n hj => by rw [List.getElem?_append_left (List.getElem?_eq_some_iff.1 hj).1]; exact hj
theorem GrowR.set {T sz : Nat} {s : List AObj} {v : AV} {rows : List (List Go.Ab.D)} (h : GrowR T sz s v rows) {i e z : Nat} {cs : List AV} (hi : s[i]? = some (.vec e z cs)) (o : AObj) : GrowR T sz (s.set i o) v rows :=
  h.keep fun j n hj => by
    have : i ≠ j := fun e => by subst e; rw [hi] at hj; cases hj
    rw [List.getElem?_set_ne this]; exact hj
theorem app_grow {T sz bytes : Nat} {s : List AObj} {v y : AV} {rows ys : List (List Go.Ab.D)} (h : GrowR T sz s v rows) (hy : slA sz y = some ys) (hne : ys ≠ []) (hr : roomOk (rows.length + ys.length) bytes = true) :
    ∃ v' s', semApp s false T sz bytes y v = some (v', s') ∧ (∃ id, v' = .tsl id sz (rows ++ ys) ∧ s'[id]? = some (.row T sz (rows ++ ys).length)) ∧ ∀ (j : Nat) (o : AObj), s[j]? = some o → (∀ n : Nat, o ≠ AObj.row T sz n) → s'[j]? = some o := by
  rcases h with ⟨rfl, rfl⟩ | ⟨id, rfl, hid⟩
  · refine ⟨.tsl s.length sz ys, s ++ [.row T sz ys.length], ?_, ⟨s.length, by simp, by simp⟩, fun j o h _ => ?_⟩
    · have hr' : roomOk ys.length bytes = true := by simpa using hr
      simp [semApp, hy, hne, hr']
    · rw [List.getElem?_append_left (List.getElem?_eq_some_iff.1 h).1]; exact h
  · have hlt := (List.getElem?_eq_some_iff.1 hid).1
    refine ⟨.tsl id sz (rows ++ ys), s.set id (.row T sz (rows.length + ys.length)), ?_, ⟨id, rfl, by rw [List.getElem?_set_self hlt]; simp⟩, fun j o h hn => ?_⟩
    · simp [semApp, hy, hid, rowOk, hr]
    · by_cases e : j = id
      · subst e
        rw [hid] at h
        exact absurd (Option.some.inj h).symm (hn _)
      · rw [List.getElem?_set_ne (Ne.symm e)]; exact h

def srow (s : List Nat) : List D := [dNats s]
def dIntss (l : List (List Nat)) : D := .sl 1 (l.map srow)

theorem keyB (b : Bool) : AV.key false (.d (.sc (.bool b))) = some [.bool b] := rfl
theorem eqKb (b c : Bool) : eqKs [.b] [.bool b] [.bool c] = some (b == c) := by simp [eqKs]
set_option maxHeartbeats 1000000 in
theorem refSameBools_fn (R : List (List Bool)) (h1 : R.length ≤ 1000000) (h2 : ∀ r ∈ R, r.length ≤ 1000000) : AFn Tryz.prog 9 [dRows R, dRows R] (dBool true) := by
  refine AFn_of (F := k_refSameBools) (okb_refSameBools.trans (by kernel_rfl)) (by simp [k_refSameBools]) ?_
  have q0 : ((R.length : Int) != (R.length : Int)) = false := by simp
  simp only [k_refSameBools, dRows, q0, ↓Both_true, ↓Both_false, wx, reduceCtorEq, reduceIte, Nat.reduceAdd, Nat.reduceEqDiff, Nat.reduceLT, Nat.reduceLeDiff, wj, ← List.map_take, ← List.map_drop]
  refine LoopK.count (fun k => [(5, .d (.sc (.int .i64 k))), (0, .d (.sl 1 (R.map brow))), (1, .d (.sl 1 (R.map brow)))]) (fun _ => []) (fun _ => True) R.length (by simp [SubB, Go.Bb.look]) rfl trivial fun k hk _ => ?_
  by_cases hlt : k < R.length
  · have f1 : decide ((k : Int) < (R.length : Int)) = true := by simpa using hlt
    have f2 : R[k]? = some R[k] := List.getElem?_eq_getElem hlt
    have f3 : IntKind.i64.wrap ((k : Int) + 1) = ((k + 1 : Nat) : Int) := wrapN (by omega) (by omega)
    have hr := h2 R[k] (List.getElem_mem _)
    generalize R[k] = r at f2 hr
    have q1 : ((r.length : Int) != (r.length : Int)) = false := by simp
    simp only [f1, f2, q1, brow, ↓Both_true, ↓Both_false, wx, reduceCtorEq, reduceIte, Nat.reduceAdd, Nat.reduceEqDiff, Nat.reduceLT, Nat.reduceLeDiff, wj, ← List.map_take, ← List.map_drop]
    refine ⟨(ordF_coarse (by simp only [List.map_cons, List.map_nil, coarse_rd, coarse_wr]; rfl)), ?_⟩
    refine LoopK.count (fun j => [(6, .d (.sc (.int .i64 j))), (5, .d (.sc (.int .i64 k))), (0, .d (.sl 1 (R.map brow))), (1, .d (.sl 1 (R.map brow)))]) (fun _ => []) (fun _ => True) r.length (by simp [SubB, Go.Bb.look]) rfl trivial fun j hj _ => ?_
    by_cases hjt : j < r.length
    · have g1 : decide ((j : Int) < (r.length : Int)) = true := by simpa using hjt
      have g2 : r[j]? = some r[j] := List.getElem?_eq_getElem hjt
      have g3 : IntKind.i64.wrap ((j : Int) + 1) = ((j + 1 : Nat) : Int) := wrapN (by omega) (by omega)
      generalize r[j] = b at g2
      simp only [f2, g1, g2, g3, brow, hjt, keyB, eqKb, beq_self_eq_true, ↓Both_true, ↓Both_false, wx, reduceCtorEq, reduceIte, Nat.reduceAdd, Nat.reduceEqDiff, Nat.reduceLT, Nat.reduceLeDiff, wj, ← List.map_take, ← List.map_drop]
      exact (ordF_coarse (by simp only [List.map_cons, List.map_nil, coarse_rd, coarse_wr]; rfl))
    · have g1 : decide ((j : Int) < (r.length : Int)) = false := by simpa using hjt
      simp only [f2, g1, f3, hlt, brow, ↓Both_true, ↓Both_false, wx, reduceCtorEq, reduceIte, Nat.reduceAdd, Nat.reduceEqDiff, Nat.reduceLT, Nat.reduceLeDiff, wj, ← List.map_take, ← List.map_drop]
  · have f1 : decide ((k : Int) < (R.length : Int)) = false := by simpa using hlt
    simp only [f1, dBool, deepD, AV.toL, ↓Both_true, ↓Both_false, wx, reduceCtorEq, reduceIte, Nat.reduceAdd, Nat.reduceEqDiff, Nat.reduceLT, Nat.reduceLeDiff, wj, ← List.map_take, ← List.map_drop]
set_option maxHeartbeats 1000000 in
theorem refSameInts21_fn (R : List (List Nat)) (h1 : R.length ≤ 1000000) (h2 : ∀ r ∈ R, r.length ≤ 1000000) : AFn Tryz.prog 14 [dIntss R, dIntss R] (dBool true) := by
  refine AFn_of (F := k_refSameInts21) (okb_refSameInts21.trans (by kernel_rfl)) (by simp [k_refSameInts21]) ?_
  have q0 : ((R.length : Int) != (R.length : Int)) = false := by simp
  simp only [k_refSameInts21, dIntss, q0, ↓Both_true, ↓Both_false, wx, reduceCtorEq, reduceIte, Nat.reduceAdd, Nat.reduceEqDiff, Nat.reduceLT, Nat.reduceLeDiff, wj, ← List.map_take, ← List.map_drop]
  refine LoopK.count (fun k => [(5, .d (.sc (.int .i64 k))), (0, .d (.sl 1 (R.map srow))), (1, .d (.sl 1 (R.map srow)))]) (fun _ => []) (fun _ => True) R.length (by simp [SubB, Go.Bb.look]) rfl trivial fun k hk _ => ?_
  by_cases hlt : k < R.length
  · have f1 : decide ((k : Int) < (R.length : Int)) = true := by simpa using hlt
    have f2 : R[k]? = some R[k] := List.getElem?_eq_getElem hlt
    have f3 : IntKind.i64.wrap ((k : Int) + 1) = ((k + 1 : Nat) : Int) := wrapN (by omega) (by omega)
    have hr := h2 R[k] (List.getElem_mem _)
    generalize R[k] = r at f2 hr
    have q1 : ((r.length : Int) != (r.length : Int)) = false := by simp
    simp only [f1, f2, q1, srow, dNats, nrow, ↓Both_true, ↓Both_false, wx, reduceCtorEq, reduceIte, Nat.reduceAdd, Nat.reduceEqDiff, Nat.reduceLT, Nat.reduceLeDiff, wj, ← List.map_take, ← List.map_drop]
    refine ⟨(ordF_coarse (by simp only [List.map_cons, List.map_nil, coarse_rd, coarse_wr]; rfl)), ?_⟩
    refine LoopK.count (fun j => [(6, .d (.sc (.int .i64 j))), (5, .d (.sc (.int .i64 k))), (0, .d (.sl 1 (R.map srow))), (1, .d (.sl 1 (R.map srow)))]) (fun _ => []) (fun _ => True) r.length (by simp [SubB, Go.Bb.look]) rfl trivial fun j hj _ => ?_
    by_cases hjt : j < r.length
    · have g1 : decide ((j : Int) < (r.length : Int)) = true := by simpa using hjt
      have g2 : r[j]? = some r[j] := List.getElem?_eq_getElem hjt
      have g3 : IntKind.i64.wrap ((j : Int) + 1) = ((j + 1 : Nat) : Int) := wrapN (by omega) (by omega)
      generalize r[j] = b at g2
      simp only [f2, g1, g2, g3, srow, dNats, nrow, hjt, bne_self_eq_false, ↓Both_true, ↓Both_false, wx, reduceCtorEq, reduceIte, Nat.reduceAdd, Nat.reduceEqDiff, Nat.reduceLT, Nat.reduceLeDiff, wj, ← List.map_take, ← List.map_drop]
      exact (ordF_coarse (by simp only [List.map_cons, List.map_nil, coarse_rd, coarse_wr]; rfl))
    · have g1 : decide ((j : Int) < (r.length : Int)) = false := by simpa using hjt
      simp only [f2, g1, f3, hlt, srow, dNats, nrow, ↓Both_true, ↓Both_false, wx, reduceCtorEq, reduceIte, Nat.reduceAdd, Nat.reduceEqDiff, Nat.reduceLT, Nat.reduceLeDiff, wj, ← List.map_take, ← List.map_drop]
  · have f1 : decide ((k : Int) < (R.length : Int)) = false := by simpa using hlt
    simp only [f1, dBool, deepD, AV.toL, ↓Both_true, ↓Both_false, wx, reduceCtorEq, reduceIte, Nat.reduceAdd, Nat.reduceEqDiff, Nat.reduceLT, Nat.reduceLeDiff, wj, ← List.map_take, ← List.map_drop]
end Go.Proofs.Lh

namespace Go.Proofs.Lh
open Go Go.Bb Go.RowKit Go.Proofs.Lg
open Go.Ab (RD RDs D)

theorem refReaches_all {g : Gr} (hg : GrOk g) : AFn Tryz.prog 11 [dGraph g] (dRows g.reach) := by
  by_cases hc : g.check = 0
  · have := Go.Proofs.Lg.Reaches_fn hg hc
    rwa [war_reach hc] at this
  · have hck := refCheck_fn hg
    have hr : g.reach = [] := by unfold Gr.reach; rw [if_neg hc]
    have q1 : (g.check != 0) = true := by simpa using hc
    rw [hr]
    refine AFn_of (F := k_refReaches) (okb_refReaches.trans (by kernel_rfl)) (by simp [k_refReaches]) ?_
    simp only [k_refReaches]
    rw [wpK_seq]
    generalize hQ1 : SeqQ _ _ = Q1
    simp only [dGraph, ↓Both_true, ↓Both_false, wx, reduceCtorEq, reduceIte, Nat.reduceAdd, Nat.reduceEqDiff, Nat.reduceLT, Nat.reduceLeDiff, wj, ← List.map_take, ← List.map_drop]
    subst hQ1
    simp only [SeqQ]
    rw [wpK_seq]
    generalize hQ2 : SeqQ _ _ = Q2
    simp only [dGraph, ↓Both_true, ↓Both_false, wx, reduceCtorEq, reduceIte, Nat.reduceAdd, Nat.reduceEqDiff, Nat.reduceLT, Nat.reduceLeDiff, wj, ← List.map_take, ← List.map_drop]
    subst hQ2
    simp only [SeqQ]
    rw [wpK_seq]
    generalize hQ3 : SeqQ _ _ = Q3
    simp only [dGraph, Nat.le_refl, ↓Both_true, ↓Both_false, wx, reduceCtorEq, reduceIte, Nat.reduceAdd, Nat.reduceEqDiff, Nat.reduceLT, Nat.reduceLeDiff, wj, ← List.map_take, ← List.map_drop]
    refine CallM.data hck rfl ?_
    simp only [q1, ↓Both_true, ↓Both_false, wx, reduceCtorEq, reduceIte, Nat.reduceAdd, Nat.reduceEqDiff, Nat.reduceLT, Nat.reduceLeDiff, wj, ← List.map_take, ← List.map_drop]
    subst hQ3
    simp only [dRows, deepD, chunk, AV.toL, ↓Both_true, ↓Both_false, wx, reduceCtorEq, reduceIte, Nat.reduceAdd, Nat.reduceEqDiff, Nat.reduceLT, Nat.reduceLeDiff, wj, ← List.map_take, ← List.map_drop]
    try rfl

/-- What Before answers at all graphs and indices. -/
def aheadI (R : List (List Bool)) (i j : Int) : Bool := if 0 ≤ i ∧ i < R.length ∧ 0 ≤ j ∧ j < R.length then bef R i.toNat j.toNat else false

set_option maxHeartbeats 1000000 in
theorem refAhead_fn {n : Nat} {R : List (List Bool)} (hq : Sq n R) (i j : Int) : AFn Tryz.prog 31 [dRows R, .sc (.int .i64 i), .sc (.int .i64 j)] (dBool (aheadI R i j)) := by
  have hl := hq.1
  generalize hv : aheadI R i j = va
  refine AFn_of (F := k_refAhead) (okb_refAhead.trans (by kernel_rfl)) (by simp [k_refAhead]) ?_
  simp only [k_refAhead, dRows]
  rw [wpK_seq]
  generalize hQ1 : SeqQ _ _ = Q1
  simp only [↓Both_true, ↓Both_false, wx, reduceCtorEq, reduceIte, Nat.reduceAdd, Nat.reduceEqDiff, Nat.reduceLT, Nat.reduceLeDiff, wj, ← List.map_take, ← List.map_drop]
  subst hQ1
  simp only [SeqQ]
  rw [wpK_seq]
  generalize hQ2 : SeqQ _ _ = Q2
  by_cases c1 : 0 ≤ i
  case neg =>
    have f1 : decide (i ≥ 0) = false := by simpa using c1
    obtain rfl : va = false := hv.symm.trans (if_neg (fun h => c1 h.1))
    simp only [f1, undef, ↓Both_true, ↓Both_false, wx, reduceCtorEq, reduceIte, Nat.reduceAdd, Nat.reduceEqDiff, Nat.reduceLT, Nat.reduceLeDiff, wj, ← List.map_take, ← List.map_drop]
    subst hQ2
    simp only [SeqQ, dBool, deepD, AV.toL, ↓Both_true, ↓Both_false, wx, reduceCtorEq, reduceIte, Nat.reduceAdd, Nat.reduceEqDiff, Nat.reduceLT, Nat.reduceLeDiff, wj, ← List.map_take, ← List.map_drop]
  have f1 : decide (i ≥ 0) = true := by simpa using c1
  by_cases c2 : i < (R.length : Int)
  case neg =>
    have f2 : decide (i < (R.length : Int)) = false := by simpa using c2
    obtain rfl : va = false := hv.symm.trans (if_neg (fun h => c2 h.2.1))
    simp only [f1, f2, undef, ↓Both_true, ↓Both_false, wx, reduceCtorEq, reduceIte, Nat.reduceAdd, Nat.reduceEqDiff, Nat.reduceLT, Nat.reduceLeDiff, wj, ← List.map_take, ← List.map_drop]
    subst hQ2
    simp only [SeqQ, dBool, deepD, AV.toL, ↓Both_true, ↓Both_false, wx, reduceCtorEq, reduceIte, Nat.reduceAdd, Nat.reduceEqDiff, Nat.reduceLT, Nat.reduceLeDiff, wj, ← List.map_take, ← List.map_drop]
  have f2 : decide (i < (R.length : Int)) = true := by simpa using c2
  by_cases c3 : 0 ≤ j
  case neg =>
    have f3 : decide (j ≥ 0) = false := by simpa using c3
    obtain rfl : va = false := hv.symm.trans (if_neg (fun h => c3 h.2.2.1))
    simp only [f1, f2, f3, undef, ↓Both_true, ↓Both_false, wx, reduceCtorEq, reduceIte, Nat.reduceAdd, Nat.reduceEqDiff, Nat.reduceLT, Nat.reduceLeDiff, wj, ← List.map_take, ← List.map_drop]
    subst hQ2
    simp only [SeqQ, dBool, deepD, AV.toL, ↓Both_true, ↓Both_false, wx, reduceCtorEq, reduceIte, Nat.reduceAdd, Nat.reduceEqDiff, Nat.reduceLT, Nat.reduceLeDiff, wj, ← List.map_take, ← List.map_drop]
  have f3 : decide (j ≥ 0) = true := by simpa using c3
  by_cases c4 : j < (R.length : Int)
  case neg =>
    have f4 : decide (j < (R.length : Int)) = false := by simpa using c4
    obtain rfl : va = false := hv.symm.trans (if_neg (fun h => c4 h.2.2.2))
    simp only [f1, f2, f3, f4, undef, ↓Both_true, ↓Both_false, wx, reduceCtorEq, reduceIte, Nat.reduceAdd, Nat.reduceEqDiff, Nat.reduceLT, Nat.reduceLeDiff, wj, ← List.map_take, ← List.map_drop]
    subst hQ2
    simp only [SeqQ, dBool, deepD, AV.toL, ↓Both_true, ↓Both_false, wx, reduceCtorEq, reduceIte, Nat.reduceAdd, Nat.reduceEqDiff, Nat.reduceLT, Nat.reduceLeDiff, wj, ← List.map_take, ← List.map_drop]
  have f4 : decide (j < (R.length : Int)) = true := by simpa using c4
  obtain rfl : va = bef R i.toNat j.toNat := hv.symm.trans (if_pos ⟨c1, c2, c3, c4⟩)
  obtain ⟨a, rfl⟩ := Int.eq_ofNat_of_zero_le c1
  obtain ⟨b, rfl⟩ := Int.eq_ofNat_of_zero_le c3
  obtain ⟨r1, u1, u2⟩ := rel_get hq (i := a) (j := b) (by omega) (by omega)
  obtain ⟨r2, v1, v2⟩ := rel_get hq (i := b) (j := a) (by omega) (by omega)
  cases h5 : rel R a b with
  | false =>
    rw [h5] at u2
    simp only [f1, f2, f3, f4, u1, u2, brow, undef, ↓Both_true, ↓Both_false, wx, reduceCtorEq, reduceIte, Nat.reduceAdd, Nat.reduceEqDiff, Nat.reduceLT, Nat.reduceLeDiff, wj, ← List.map_take, ← List.map_drop]
    subst hQ2
    simp only [SeqQ, dBool, deepD, AV.toL, bef, h5, ↓Both_true, ↓Both_false, wx, reduceCtorEq, reduceIte, Nat.reduceAdd, Nat.reduceEqDiff, Nat.reduceLT, Nat.reduceLeDiff, wj, ← List.map_take, ← List.map_drop]
  | true =>
    rw [h5] at u2
    simp only [f1, f2, f3, f4, u1, u2, v1, v2, brow, undef, ↓Both_true, ↓Both_false, wx, reduceCtorEq, reduceIte, Nat.reduceAdd, Nat.reduceEqDiff, Nat.reduceLT, Nat.reduceLeDiff, wj, ← List.map_take, ← List.map_drop]
    subst hQ2
    simp only [SeqQ, dBool, deepD, AV.toL, bef, h5, ↓Both_true, ↓Both_false, wx, reduceCtorEq, reduceIte, Nat.reduceAdd, Nat.reduceEqDiff, Nat.reduceLT, Nat.reduceLeDiff, wj, ← List.map_take, ← List.map_drop]

theorem refBefore21_fn {g : Gr} (hg : GrOk g) (i j : Int) : AFn Tryz.prog 13 [dGraph g, .sc (.int .i64 i), .sc (.int .i64 j)] (dBool (aheadI g.reach i j)) := by
  refine AFn_of (F := k_refBefore21) (okb_refBefore21.trans (by kernel_rfl)) (by simp [k_refBefore21]) ?_
  simp only [k_refBefore21, dGraph, Nat.le_refl, ↓Both_true, ↓Both_false, wx, reduceCtorEq, reduceIte, Nat.reduceAdd, Nat.reduceEqDiff, Nat.reduceLT, Nat.reduceLeDiff, wj, ← List.map_take, ← List.map_drop]
  refine CallM.data (refReaches_all hg) rfl ?_
  simp only [↓Both_true, ↓Both_false, wx, reduceCtorEq, reduceIte, Nat.reduceAdd, Nat.reduceEqDiff, Nat.reduceLT, Nat.reduceLeDiff, wj, ← List.map_take, ← List.map_drop]
  refine CallM.data (refAhead_fn g.sq i j) rfl ?_
  simp only [dBool, deepD, AV.toL, ↓Both_true, ↓Both_false, wx, reduceCtorEq, reduceIte, Nat.reduceAdd, Nat.reduceEqDiff, Nat.reduceLT, Nat.reduceLeDiff, wj, ← List.map_take, ← List.map_drop]

set_option maxRecDepth 100000 in
theorem Before_bad (vl ve : Value) (g : Gr) (i j : Nat) (w : World) (hg : GrAt w vl ve g) (hck : g.check ≠ 0) (hi : i < g.lines.length) (hj : j < g.lines.length) :
    Calls Tryz.prog 12 #[.agg #[vl, ve], .int .i64 i, .int .i64 j] w fun e w' => e = .returned (.bool false) ∧ Below w.heap.size w w' := by
  have h2 : (g.check != 0) = true := by simpa using hck
  have h1 : (g.check == 0) = false := by simpa using hck
  have HG := Lib.hid hg
  have hfew := hg.few
  obtain ⟨al, cl, hvl⟩ : ∃ a c, vl = .slice a g.lines.length c := by obtain ⟨a, c, h, _⟩ := hg.lines; exact ⟨a, c, by simpa using h⟩
  subst hvl
  clear hck hg
  have d1 : decide ((i : Int) < 0) = false := by simp
  have d2 : decide ((j : Int) < 0) = false := by simp
  have d3 : decide ((g.lines.length : Int) ≤ (i : Int)) = false := by simp; omega
  have d4 : decide ((g.lines.length : Int) ≤ (j : Int)) = false := by simp; omega
  have d5 : decide (g.lines.length ≤ i) = false := by simp; omega
  have d6 : decide (g.lines.length ≤ j) = false := by simp; omega
  go_enter Tryz.func12, Tryz.ntmps12
  go_wp2_with fail
  refine (Check_any _ ve g _ (HG.out.below ((Below.refl _ _).alloc (Nat.le_refl _) _))).mono ?_
  rintro e w1 ⟨rfl, hb1⟩
  have hbw1 : Below w.heap.size w w1 := ((Below.refl _ _).alloc (Nat.le_refl _) _).trans (hb1.mono (by simp))
  have HB := Lib.hid hbw1
  clear hb1 hbw1
  go_wp2
  go_ret
  exact ⟨rfl, HB.out⟩

theorem Before_all {g : Gr} (hg : GrOk g) (i j : Int) : AFn Tryz.prog 12 [dGraph g, .sc (.int .i64 i), .sc (.int .i64 j)] (dBool (aheadI g.reach i j)) := by
  by_cases hck : g.check = 0
  · have hrl : g.reach.length = g.lines.length := by unfold Gr.reach; rw [if_pos hck]; simp
    have h := Before_fn hg hck i j
    have e : beforeI g i j = aheadI g.reach i j := by
      unfold beforeI aheadI
      rw [hrl]
      by_cases hh : 0 ≤ i ∧ 0 ≤ j ∧ i < g.lines.length ∧ j < g.lines.length
      · rw [if_pos hh, if_pos ⟨hh.1, hh.2.2.1, hh.2.1, hh.2.2.2⟩, Gr.before_bef hck (by omega) (by omega)]
      · rw [if_neg hh, if_neg fun h => hh ⟨h.1, h.2.2.1, h.2.1, h.2.2.2⟩]
    rwa [e] at h
  · have hr : g.reach = [] := by unfold Gr.reach; rw [if_neg hck]
    have e : aheadI g.reach i j = false := by rw [hr]; exact if_neg fun h => by have h1 := h.1; have h2 := h.2.1; simp at h2; omega
    rw [e]
    exact graph_fnx Tryz.func12 (by rfl) (by rfl) hg [.int .i64 i, .int .i64 j] fun vl ve w hat => by
      by_cases h : 0 ≤ i ∧ 0 ≤ j ∧ i < g.lines.length ∧ j < g.lines.length
      · have e1 : i = (i.toNat : Int) := by omega
        have e2 : j = (j.toNat : Int) := by omega
        have := Before_bad vl ve g i.toNat j.toNat w hat hck (by omega) (by omega)
        rw [← e1, ← e2] at this
        exact this.mono fun e w' ⟨he, hb⟩ => ⟨_, he, fun _ => .sc _, hb⟩
      · exact (Before_out vl ve g i j w hat (by omega)).mono fun e w' ⟨he, hb⟩ => ⟨_, he, fun _ => .sc _, hb⟩
end Go.Proofs.Lh

namespace Go.Proofs.Lh
open Go Go.Bb Go.RowKit Go.Proofs.Lg
open Go.Ab (RD RDs D)

theorem natEq (a b : Nat) : ((a : Int) == (b : Int)) = decide (a = b) := by
  rw [Bool.eq_iff_iff]; simp only [beq_iff_eq, decide_eq_true_eq]; omega

set_option maxRecDepth 10000 in
set_option maxHeartbeats 4000000 in
theorem linComponents_fn {g : Gr} (hg : GrOk g) : AFn Tryz.prog 15 [dGraph g] (dIntss (compsTo g.reach g.dim g.dim)) := by
  have hq := g.sq
  have ht := g.transR
  have hn : g.dim ≤ 1000000 := Nat.le_trans g.dim_le hg.few
  have hR := linReaches_fn hg
  generalize g.reach = R at *
  generalize g.dim = n at *
  have hRl := hq.1
  refine AFn_of (F := k_linComponents) (okb_linComponents.trans (by kernel_rfl)) (by simp [k_linComponents]) ?_
  simp only [k_linComponents]
  rw [wpK_seq]
  generalize hQ1 : SeqQ _ _ = Q1
  simp only [dGraph, ↓Both_true, ↓Both_false, wx, reduceCtorEq, reduceIte, Nat.reduceAdd, Nat.reduceEqDiff, Nat.reduceLT, Nat.reduceLeDiff, wj, ← List.map_take, ← List.map_drop]
  subst hQ1
  simp only [SeqQ]
  rw [wpK_seq]
  generalize hQ2 : SeqQ _ _ = Q2
  simp only [dGraph, Nat.le_refl, ↓Both_true, ↓Both_false, wx, reduceCtorEq, reduceIte, Nat.reduceAdd, Nat.reduceEqDiff, Nat.reduceLT, Nat.reduceLeDiff, wj, ← List.map_take, ← List.map_drop]
  refine CallM.data hR rfl ?_
  simp only [dRows, ↓Both_true, ↓Both_false, wx, reduceCtorEq, reduceIte, Nat.reduceAdd, Nat.reduceEqDiff, Nat.reduceLT, Nat.reduceLeDiff, wj, ← List.map_take, ← List.map_drop]
  subst hQ2
  simp only [SeqQ]
  rw [wpK_seq]
  generalize hQ3 : SeqQ _ _ = Q3
  have n1 : (n : Int) * ((1 : Nat) : Int) ≤ 140737488355328 := by omega
  have n2 : (n : Int) ≤ 140737488355328 := by omega
  simp only [hRl, n1, n2, Int.le_refl, ↓Both_true, ↓Both_false, wx, reduceCtorEq, reduceIte, Nat.reduceAdd, Nat.reduceEqDiff, Nat.reduceLT, Nat.reduceLeDiff, wj, ← List.map_take, ← List.map_drop]
  subst hQ3
  simp only [SeqQ]
  rw [wpK_seq]
  generalize hQ4 : SeqQ _ _ = Q4
  simp only [↓Both_true, ↓Both_false, wx, reduceCtorEq, reduceIte, Nat.reduceAdd, Nat.reduceEqDiff, Nat.reduceLT, Nat.reduceLeDiff, wj, ← List.map_take, ← List.map_drop]
  subst hQ4
  simp only [SeqQ]
  rw [wpK_seq]
  generalize hQ5 : SeqQ _ _ = Q5
  simp only [hRl, ↓Both_true, ↓Both_false, wx, reduceCtorEq, reduceIte, Nat.reduceAdd, Nat.reduceEqDiff, Nat.reduceLT, Nat.reduceLeDiff, wj, ← List.map_take, ← List.map_drop]
  have hz : (List.replicate n (AV.d (D.sc (Value.bool false)))) = (doneTo R n 0).map fun b => AV.d (D.sc (Value.bool b)) := by rw [doneTo_zero, List.map_replicate]
  rw [hz]
  generalize AObj.cells [AV.d (dLines g.lines), AV.d (dEdges g.edges)] = A
  refine LoopK.at (fun b : Nat × AV × List AObj => [(16, .d (.sc (.int .i64 b.1))), (15, .d (.sc (.int .i64 n))), (3, .d (.sl 1 (R.map brow))), (4, .vec 1 n 1), (5, b.2.1)]) (fun b => b.2.2)
    (fun m b => m + b.1 = n ∧ b.2.2[1]? = some (rblk (doneTo R n b.1)) ∧ GrowR 37 1 b.2.2 b.2.1 ((compsTo R n b.1).map srow)) n (0, .nil 1, _) (by simp [SubB, Go.Bb.look]) rfl ⟨rfl, rfl, GrowR.nil 37 1 _⟩ ?_
  clear hz
  rintro mm ⟨i, v, s⟩ ⟨hm, hd, hv⟩
  dsimp only at hm hd hv ⊢
  by_cases hlt : i < n
  · have h1 : decide ((i : Int) < (n : Int)) = true := by simpa using hlt
    have h3 : IntKind.i64.wrap ((i : Int) + 1) = ((i + 1 : Nat) : Int) := wrapN (by omega) (by omega)
    have hdi := doneTo_get (R := R) (m := i) hlt
    rw [done_first] at hdi
    have hd' : s[1]? = some (.vec 4 1 ((doneTo R n i).map fun b => .d (.sc (.bool b)))) := hd
    have hdl := doneTo_len R n i
    rw [wpK_seq]
    generalize hB1 : SeqQ _ _ = B1
    simp only [h1, ↓Both_true, ↓Both_false, wx, reduceCtorEq, reduceIte, Nat.reduceAdd, Nat.reduceEqDiff, Nat.reduceLT, Nat.reduceLeDiff, wj, ← List.map_take, ← List.map_drop]
    subst hB1
    simp only [SeqQ]
    rw [wpK_seq]
    generalize hB2 : SeqQ _ _ = B2
    simp only [↓Both_true, ↓Both_false, wx, reduceCtorEq, reduceIte, Nat.reduceAdd, Nat.reduceEqDiff, Nat.reduceLT, Nat.reduceLeDiff, wj, ← List.map_take, ← List.map_drop]
    subst hB2
    simp only [SeqQ]
    rw [wpK_seq]
    generalize hB3 : SeqQ _ _ = B3
    rw [wpK_block]
    generalize hB4 : BlockQ _ _ = B4
    rw [wpK_seq]
    generalize hB5 : SeqQ _ _ = B5
    simp only [↓Both_true, ↓Both_false, wx, reduceCtorEq, reduceIte, Nat.reduceAdd, Nat.reduceEqDiff, Nat.reduceLT, Nat.reduceLeDiff, wj, ← List.map_take, ← List.map_drop]
    subst hB5
    simp only [SeqQ]
    rw [wpK_seq]
    generalize hB6 : SeqQ _ _ = B6
    rw [wpK_seq]
    generalize hB7 : SeqQ _ _ = B7
    simp only [hd', hdl, hlt, hdi, Nat.mul_one, ↓Both_true, ↓Both_false, wx, reduceCtorEq, reduceIte, Nat.reduceAdd, Nat.reduceEqDiff, Nat.reduceLT, Nat.reduceLeDiff, wj, ← List.map_take, ← List.map_drop]
    subst hB7
    simp only [SeqQ]
    cases hf : firstB R i with
    | false =>
      simp only [hf, ↓Both_true, ↓Both_false, wx, reduceCtorEq, reduceIte, Nat.reduceAdd, Nat.reduceEqDiff, Nat.reduceLT, Nat.reduceLeDiff, wj, ← List.map_take, ← List.map_drop]
      subst hB6
      simp only [SeqQ]
      subst hB4
      simp only [BlockQ, ↓Both_true, ↓Both_false, wx, reduceCtorEq, reduceIte, Nat.reduceAdd, Nat.reduceEqDiff, Nat.reduceLT, Nat.reduceLeDiff, wj, ← List.map_take, ← List.map_drop]
      subst hB3
      simp only [SeqQ, h3, ↓Both_true, ↓Both_false, wx, reduceCtorEq, reduceIte, Nat.reduceAdd, Nat.reduceEqDiff, Nat.reduceLT, Nat.reduceLeDiff, wj, ← List.map_take, ← List.map_drop]
      refine ⟨mm - 1, (i + 1, v, s), by omega, ⟨rfl, rfl⟩, rfl, by dsimp only; omega, ?_, ?_⟩
      · dsimp only
        rw [doneTo_skip ht hlt hf]; exact hd
      · dsimp only
        rw [compsTo_succ, if_neg (by rw [hf]; decide)]; exact hv
    | true =>
      simp only [hf, ↓Both_true, ↓Both_false, wx, reduceCtorEq, reduceIte, Nat.reduceAdd, Nat.reduceEqDiff, Nat.reduceLT, Nat.reduceLeDiff, wj, ← List.map_take, ← List.map_drop]
      subst hB6
      simp only [SeqQ]
      rw [wpK_seq]
      generalize hB8 : SeqQ _ _ = B8
      simp only [↓Both_true, ↓Both_false, wx, reduceCtorEq, reduceIte, Nat.reduceAdd, Nat.reduceEqDiff, Nat.reduceLT, Nat.reduceLeDiff, wj, ← List.map_take, ← List.map_drop]
      subst hB8
      simp only [SeqQ]
      rw [wpK_seq]
      generalize hB13 : SeqQ _ _ = B13
      rw [wpK_seq]
      generalize hB14 : SeqQ _ _ = B14
      simp only [hRl, ↓Both_true, ↓Both_false, wx, reduceCtorEq, reduceIte, Nat.reduceAdd, Nat.reduceEqDiff, Nat.reduceLT, Nat.reduceLeDiff, wj, ← List.map_take, ← List.map_drop]
      subst hB14
      simp only [SeqQ]
      simp only [↓Both_true, ↓Both_false, wx, reduceCtorEq, reduceIte, Nat.reduceAdd, Nat.reduceEqDiff, Nat.reduceLT, Nat.reduceLeDiff, wj, ← List.map_take, ← List.map_drop]
      refine LoopK.at (fun b : Nat × AV × List AObj => [(25, .d (.sc (.int .i64 b.1))), (24, .d (.sc (.int .i64 n))), (6, .d (.sc (.int .i64 i))), (16, .d (.sc (.int .i64 i))), (15, .d (.sc (.int .i64 n))), (3, .d (.sl 1 (R.map brow))), (4, .vec 1 n 1), (5, v), (7, b.2.1)]) (fun b => b.2.2)
        (fun m b => m + b.1 = n ∧ b.2.2[1]? = some (rblk (doneIn R n i b.1)) ∧ GrowR 37 1 b.2.2 v ((compsTo R n i).map srow) ∧ GrowR 3 1 b.2.2 b.2.1 (((List.range b.1).filter (sameC R i)).map nrow)) n (0, .nil 1, s) (by simp [SubB, Go.Bb.look]) rfl ⟨rfl, by dsimp only; rw [doneIn_zero]; exact hd, hv, GrowR.nil 3 1 _⟩ ?_
      clear hv hd hd' hdi hdl s
      rintro m2 ⟨k, u, s⟩ ⟨hm2, hd2, hv2, hu⟩
      dsimp only at hm2 hd2 hv2 hu ⊢
      by_cases hkn : k < n
      · have hk1 : decide ((k : Int) < (n : Int)) = true := by simpa using hkn
        have hk3 : IntKind.i64.wrap ((k : Int) + 1) = ((k + 1 : Nat) : Int) := wrapN (by omega) (by omega)
        have hkn1 : k + 1 ≤ n := hkn
        have hd' : s[1]? = some (.vec 4 1 ((doneIn R n i k).map fun b => .d (.sc (.bool b)))) := hd2
        have hs1 : 1 < s.length := (List.getElem?_eq_some_iff.1 hd2).1
        have hdl' := doneIn_len R n i k
        have hrl := row_len R i k
        have hroom : roomOk ((((List.range k).filter (sameC R i)).map nrow).length + ([nrow k] : List (List D)).length) 8 = true := by simp only [roomOk, decide_eq_true_eq, List.length_map, List.length_cons, List.length_nil]; omega
        have e1 := natEq k i
        obtain ⟨ri, u1, u2⟩ := rel_get hq hlt hkn
        obtain ⟨rk, w1, w2⟩ := rel_get hq hkn hlt
        have hsame : sameC R i k = (decide (k = i) || (rel R i k && rel R k i)) := rfl
        generalize rel R i k = x at u2 hsame
        generalize rel R k i = y at w2 hsame
        generalize decide (k = i) = z at e1 hsame
        rw [wpK_seq]
        generalize hB15 : SeqQ _ _ = B15
        simp only [hk1, ↓Both_true, ↓Both_false, wx, reduceCtorEq, reduceIte, Nat.reduceAdd, Nat.reduceEqDiff, Nat.reduceLT, Nat.reduceLeDiff, wj, ← List.map_take, ← List.map_drop]
        subst hB15
        simp only [SeqQ]
        rw [wpK_seq]
        generalize hB16 : SeqQ _ _ = B16
        simp only [↓Both_true, ↓Both_false, wx, reduceCtorEq, reduceIte, Nat.reduceAdd, Nat.reduceEqDiff, Nat.reduceLT, Nat.reduceLeDiff, wj, ← List.map_take, ← List.map_drop]
        subst hB16
        simp only [SeqQ]
        rw [wpK_seq]
        generalize hB9 : SeqQ _ _ = B9
        rw [wpK_block]
        generalize hB10 : BlockQ _ _ = B10
        rw [wpK_seq]
        generalize hB11 : SeqQ _ _ = B11
        simp only [↓Both_true, ↓Both_false, wx, reduceCtorEq, reduceIte, Nat.reduceAdd, Nat.reduceEqDiff, Nat.reduceLT, Nat.reduceLeDiff, wj, ← List.map_take, ← List.map_drop]
        subst hB11
        simp only [SeqQ]
        cases z with
        | true =>
          rw [wpK_seq]
          generalize hB12 : SeqQ _ _ = B12
          simp only [e1, u1, u2, w1, w2, brow, undef, ↓Both_true, ↓Both_false, wx, reduceCtorEq, reduceIte, Nat.reduceAdd, Nat.reduceEqDiff, Nat.reduceLT, Nat.reduceLeDiff, wj, ← List.map_take, ← List.map_drop]
          have hsm : sameC R i k = true := by rw [hsame]; simp
          subst hB12
          simp only [SeqQ]
          obtain ⟨u', s2, a1, ⟨id, rfl, a2⟩, a3⟩ := app_grow (T := 3) (sz := 1) (bytes := 8) (s := s.set 1 (rblk ((doneIn R n i k).set k true)) ++ [.row 3 1 1]) (y := .tsl s.length 1 [[.sc (.int .i64 (k : Int))]]) (ys := [nrow k]) ((hu.set hd' _).app _) rfl (by simp) hroom
          have hput := rblk_set' (doneIn R n i k) k true (by rw [doneIn_len]; exact hkn)
          have b1 : s2[1]? = some (rblk ((doneIn R n i k).set k true)) := a3 1 _ (by rw [List.getElem?_append_left (by rw [List.length_set]; exact hs1), List.getElem?_set_self hs1]) (fun m h => by cases h)
          have b2 : GrowR 37 1 s2 v ((compsTo R n i).map srow) := ((hv2.set hd' _).app _).keep fun j m hj => a3 j _ hj (fun m h => by cases h)
          rw [hput] at a1
          simp only [hd', hdl', hk1, hkn, hkn1, a1, Nat.mul_one, List.length_set, ↓Both_true, ↓Both_false, wx, reduceCtorEq, reduceIte, Nat.reduceAdd, Nat.reduceEqDiff, Nat.reduceLT, Nat.reduceLeDiff, wj, ← List.map_take, ← List.map_drop]
          subst hB10
          simp only [BlockQ]
          subst hB9
          simp only [SeqQ, hk3, ↓Both_true, ↓Both_false, wx, reduceCtorEq, reduceIte, Nat.reduceAdd, Nat.reduceEqDiff, Nat.reduceLT, Nat.reduceLeDiff, wj, ← List.map_take, ← List.map_drop]
          refine ⟨m2 - 1, (k + 1, _, s2), by omega, ⟨rfl, rfl⟩, rfl, by dsimp only; omega, ?_, b2, ?_⟩
          · dsimp only
            rw [doneIn_succ hkn, if_pos hsm]; exact b1
          · dsimp only
            rw [row_succ, if_pos hsm, List.map_append]; exact .inr ⟨id, rfl, a2⟩
        | false =>
          cases x with
          | false =>
            rw [wpK_seq]
            generalize hB12 : SeqQ _ _ = B12
            simp only [e1, u1, u2, w1, w2, brow, undef, ↓Both_true, ↓Both_false, wx, reduceCtorEq, reduceIte, Nat.reduceAdd, Nat.reduceEqDiff, Nat.reduceLT, Nat.reduceLeDiff, wj, ← List.map_take, ← List.map_drop]
            have hsm : sameC R i k = false := by rw [hsame]; simp
            subst hB12
            simp only [SeqQ, ↓Both_true, ↓Both_false, wx, reduceCtorEq, reduceIte, Nat.reduceAdd, Nat.reduceEqDiff, Nat.reduceLT, Nat.reduceLeDiff, wj, ← List.map_take, ← List.map_drop]
            subst hB10
            simp only [BlockQ]
            subst hB9
            simp only [SeqQ, hk3, ↓Both_true, ↓Both_false, wx, reduceCtorEq, reduceIte, Nat.reduceAdd, Nat.reduceEqDiff, Nat.reduceLT, Nat.reduceLeDiff, wj, ← List.map_take, ← List.map_drop]
            refine ⟨m2 - 1, (k + 1, u, s), by omega, ⟨rfl, rfl⟩, rfl, by dsimp only; omega, ?_, hv2, ?_⟩
            · dsimp only
              rw [doneIn_succ hkn, if_neg (by rw [hsm]; decide)]; exact hd2
            · dsimp only
              rw [row_succ, if_neg (by rw [hsm]; decide)]; exact hu
          | true =>
            cases y with
            | false =>
              rw [wpK_seq]
              generalize hB12 : SeqQ _ _ = B12
              simp only [e1, u1, u2, w1, w2, brow, undef, ↓Both_true, ↓Both_false, wx, reduceCtorEq, reduceIte, Nat.reduceAdd, Nat.reduceEqDiff, Nat.reduceLT, Nat.reduceLeDiff, wj, ← List.map_take, ← List.map_drop]
              have hsm : sameC R i k = false := by rw [hsame]; simp
              subst hB12
              simp only [SeqQ, ↓Both_true, ↓Both_false, wx, reduceCtorEq, reduceIte, Nat.reduceAdd, Nat.reduceEqDiff, Nat.reduceLT, Nat.reduceLeDiff, wj, ← List.map_take, ← List.map_drop]
              subst hB10
              simp only [BlockQ]
              subst hB9
              simp only [SeqQ, hk3, ↓Both_true, ↓Both_false, wx, reduceCtorEq, reduceIte, Nat.reduceAdd, Nat.reduceEqDiff, Nat.reduceLT, Nat.reduceLeDiff, wj, ← List.map_take, ← List.map_drop]
              refine ⟨m2 - 1, (k + 1, u, s), by omega, ⟨rfl, rfl⟩, rfl, by dsimp only; omega, ?_, hv2, ?_⟩
              · dsimp only
                rw [doneIn_succ hkn, if_neg (by rw [hsm]; decide)]; exact hd2
              · dsimp only
                rw [row_succ, if_neg (by rw [hsm]; decide)]; exact hu
            | true =>
              rw [wpK_seq]
              generalize hB12 : SeqQ _ _ = B12
              simp only [e1, u1, u2, w1, w2, brow, undef, ↓Both_true, ↓Both_false, wx, reduceCtorEq, reduceIte, Nat.reduceAdd, Nat.reduceEqDiff, Nat.reduceLT, Nat.reduceLeDiff, wj, ← List.map_take, ← List.map_drop]
              have hsm : sameC R i k = true := by rw [hsame]; simp
              subst hB12
              simp only [SeqQ]
              obtain ⟨u', s2, a1, ⟨id, rfl, a2⟩, a3⟩ := app_grow (T := 3) (sz := 1) (bytes := 8) (s := s.set 1 (rblk ((doneIn R n i k).set k true)) ++ [.row 3 1 1]) (y := .tsl s.length 1 [[.sc (.int .i64 (k : Int))]]) (ys := [nrow k]) ((hu.set hd' _).app _) rfl (by simp) hroom
              have hput := rblk_set' (doneIn R n i k) k true (by rw [doneIn_len]; exact hkn)
              have b1 : s2[1]? = some (rblk ((doneIn R n i k).set k true)) := a3 1 _ (by rw [List.getElem?_append_left (by rw [List.length_set]; exact hs1), List.getElem?_set_self hs1]) (fun m h => by cases h)
              have b2 : GrowR 37 1 s2 v ((compsTo R n i).map srow) := ((hv2.set hd' _).app _).keep fun j m hj => a3 j _ hj (fun m h => by cases h)
              rw [hput] at a1
              simp only [hd', hdl', hk1, hkn, hkn1, a1, Nat.mul_one, List.length_set, ↓Both_true, ↓Both_false, wx, reduceCtorEq, reduceIte, Nat.reduceAdd, Nat.reduceEqDiff, Nat.reduceLT, Nat.reduceLeDiff, wj, ← List.map_take, ← List.map_drop]
              subst hB10
              simp only [BlockQ]
              subst hB9
              simp only [SeqQ, hk3, ↓Both_true, ↓Both_false, wx, reduceCtorEq, reduceIte, Nat.reduceAdd, Nat.reduceEqDiff, Nat.reduceLT, Nat.reduceLeDiff, wj, ← List.map_take, ← List.map_drop]
              refine ⟨m2 - 1, (k + 1, _, s2), by omega, ⟨rfl, rfl⟩, rfl, by dsimp only; omega, ?_, b2, ?_⟩
              · dsimp only
                rw [doneIn_succ hkn, if_pos hsm]; exact b1
              · dsimp only
                rw [row_succ, if_pos hsm, List.map_append]; exact .inr ⟨id, rfl, a2⟩
      · obtain rfl : n = k := by omega
        have hk1 : decide ((n : Int) < (n : Int)) = false := by simp
        simp only [hk1, ↓Both_true, ↓Both_false, wx, reduceCtorEq, reduceIte, Nat.reduceAdd, Nat.reduceEqDiff, Nat.reduceLT, Nat.reduceLeDiff, wj, ← List.map_take, ← List.map_drop]
        have hcl := compsTo_len R n i
        have hroom : roomOk (((compsTo R n i).map srow).length + ([srow (compRow R n i)] : List (List D)).length) 24 = true := by simp only [roomOk, decide_eq_true_eq, List.length_map, List.length_cons, List.length_nil]; omega
        have hne := compRow_ne (R := R) hlt
        have hcr : (List.range n).filter (sameC R i) = compRow R n i := rfl
        rw [hcr] at hu
        rcases hu with ⟨h0, _⟩ | ⟨id, rfl, hid⟩
        · exact absurd (List.map_eq_nil_iff.1 h0) hne
        obtain ⟨v', s2, a1, ⟨id2, rfl, a2⟩, a3⟩ := app_grow (T := 37) (sz := 1) (bytes := 24) (s := s ++ [.row 37 1 1]) (y := .tsl s.length 1 [[.sl 1 ((compRow R n i).map nrow)]]) (ys := [srow (compRow R n i)]) (hv2.app _) rfl (by simp) hroom
        have hs1 : 1 < s.length := (List.getElem?_eq_some_iff.1 hd2).1
        have b1 : s2[1]? = some (rblk (doneTo R n (i + 1))) := a3 1 _ (by rw [List.getElem?_append_left hs1, hd2, doneIn_end]) (fun m h => by cases h)
        subst hB13
        simp only [SeqQ, a1, ↓Both_true, ↓Both_false, wx, reduceCtorEq, reduceIte, Nat.reduceAdd, Nat.reduceEqDiff, Nat.reduceLT, Nat.reduceLeDiff, wj, ← List.map_take, ← List.map_drop]
        subst hB4
        simp only [BlockQ]
        subst hB3
        simp only [SeqQ, h3, ↓Both_true, ↓Both_false, wx, reduceCtorEq, reduceIte, Nat.reduceAdd, Nat.reduceEqDiff, Nat.reduceLT, Nat.reduceLeDiff, wj, ← List.map_take, ← List.map_drop]
        refine ⟨mm - 1, (i + 1, _, s2), by omega, ⟨rfl, rfl⟩, rfl, by dsimp only; omega, b1, ?_⟩
        dsimp only
        rw [compsTo_succ, if_pos hf, List.map_append]
        exact .inr ⟨id2, rfl, a2⟩
  · obtain rfl : n = i := by omega
    have h1 : decide ((n : Int) < (n : Int)) = false := by simp
    simp only [h1, ↓Both_true, ↓Both_false, wx, reduceCtorEq, reduceIte, Nat.reduceAdd, Nat.reduceEqDiff, Nat.reduceLT, Nat.reduceLeDiff, wj, ← List.map_take, ← List.map_drop]
    subst hQ5
    simp only [SeqQ, ↓Both_true, ↓Both_false, wx, reduceCtorEq, reduceIte, Nat.reduceAdd, Nat.reduceEqDiff, Nat.reduceLT, Nat.reduceLeDiff, wj, ← List.map_take, ← List.map_drop]
    exact hv.deep s 4
end Go.Proofs.Lh

namespace Go.Proofs.Lg

/-- The lines that come first in their components, and the number of a line's component. -/
def firsts (R : List (List Bool)) (n : Nat) : List Nat := (List.range n).filter (firstB R)
def ofI (R : List (List Bool)) (n x : Nat) : Nat := (firsts R n).findIdx (fun f => sameC R f x) + 1

theorem comps_firsts (R : List (List Bool)) (n : Nat) : compsTo R n n = (firsts R n).map (compRow R n) := rfl
theorem firsts_mem {R : List (List Bool)} {n f : Nat} : f ∈ firsts R n ↔ f < n ∧ firstB R f = true := by unfold firsts; rw [List.mem_filter, List.mem_range]
theorem firsts_sorted (R : List (List Bool)) (n : Nat) : (firsts R n).Pairwise (· < ·) := List.Pairwise.filter _ List.pairwise_lt_range
theorem firsts_len (R : List (List Bool)) (n : Nat) : (firsts R n).length ≤ n := by
  have := List.length_filter_le (firstB R) (List.range n)
  rwa [List.length_range] at this

theorem least (p : Nat → Bool) : ∀ x : Nat, p x = true → ∃ f, f ≤ x ∧ p f = true ∧ ∀ j, j < f → p j = false
  | x, hx => by
    induction x using Nat.strongRecOn with
    | ind x ih =>
      by_cases h : ∃ j, j < x ∧ p j = true
      · obtain ⟨j, hj, hp⟩ := h
        obtain ⟨f, h1, h2, h3⟩ := ih j hj hp
        exact ⟨f, by omega, h2, h3⟩
      · refine ⟨x, Nat.le_refl _, hx, fun j hj => ?_⟩
        cases hp : p j with
        | false => rfl
        | true => exact absurd ⟨j, hj, hp⟩ h

theorem first_of {n : Nat} {R : List (List Bool)} (ht : TransR n R) {x : Nat} (hx : x < n) : ∃ f ∈ firsts R n, sameC R f x = true := by
  obtain ⟨f, h1, h2, h3⟩ := least (fun j => sameC R x j) x (sameC_self R x)
  refine ⟨f, firsts_mem.2 ⟨by omega, ?_⟩, by rw [sameC_symm]; exact h2⟩
  unfold firstB
  rw [List.all_eq_true]
  intro j hj
  have hj := List.mem_range.1 hj
  cases hs : sameC R f j with
  | false => rfl
  | true =>
    have := sameC_trans ht (i := x) (j := f) (k := j) hx (by omega) (by omega) h2 hs
    rw [h3 j hj] at this; cases this

theorem ofI_le {n : Nat} {R : List (List Bool)} (ht : TransR n R) {x : Nat} (hx : x < n) : ofI R n x ≤ (firsts R n).length := by
  obtain ⟨f, h1, h2⟩ := first_of ht hx
  exact List.findIdx_lt_length_of_exists ⟨f, h1, h2⟩

/-- A line is in the component of the k-th first line just if its number says so. -/
theorem same_ofI {n : Nat} {R : List (List Bool)} (ht : TransR n R) {x k f : Nat} (hx : x < n) (hf : (firsts R n)[k]? = some f) : sameC R f x = decide (ofI R n x = k + 1) := by
  have hk : k < (firsts R n).length := (List.getElem?_eq_some_iff.1 hf).1
  have hfm := firsts_mem.1 (List.mem_of_getElem? hf)
  have hlt := ofI_le ht hx
  have hsort := firsts_sorted R n
  obtain ⟨q, hq⟩ : ∃ q, (firsts R n).findIdx (fun f => sameC R f x) = q := ⟨_, rfl⟩
  unfold ofI at hlt ⊢
  rw [hq] at hlt ⊢
  have hql : q < (firsts R n).length := by omega
  have hget : sameC R ((firsts R n)[q]'hql) x = true := by subst hq; exact List.findIdx_getElem (p := fun f => sameC R f x)
  have hgm := firsts_mem.1 (List.getElem_mem hql)
  rw [Bool.eq_iff_iff, decide_eq_true_eq]
  constructor
  · intro h
    have hle : q ≤ k := by
      rw [← hq]
      refine Nat.le_of_not_lt fun hc => ?_
      have := List.not_of_lt_findIdx hc
      rw [(List.getElem?_eq_some_iff.1 hf).2, h] at this
      cases this
    by_cases e : q = k
    · omega
    · exfalso
      have hlt2 := (List.pairwise_iff_getElem.1 hsort) q k hql hk (by omega)
      rw [(List.getElem?_eq_some_iff.1 hf).2] at hlt2
      have h2 := sameC_trans ht (i := f) (j := x) (k := (firsts R n)[q]) hfm.1 hx hgm.1 h (by rw [sameC_symm]; exact hget)
      have h3 := hfm.2
      unfold firstB at h3
      have := List.all_eq_true.1 h3 _ (List.mem_range.2 hlt2)
      rw [h2] at this; cases this
  · intro h
    obtain rfl : q = k := by omega
    rw [(List.getElem?_eq_some_iff.1 hf).2] at hget
    exact hget

theorem ofI_same {n : Nat} {R : List (List Bool)} (ht : TransR n R) {i j : Nat} (hi : i < n) (hj : j < n) : decide (ofI R n i = ofI R n j) = sameC R i j := by
  have hil := ofI_le ht hi
  have h1 : 1 ≤ ofI R n i := by unfold ofI; omega
  have hk : ofI R n i - 1 < (firsts R n).length := by omega
  have hf : (firsts R n)[ofI R n i - 1]? = some (firsts R n)[ofI R n i - 1] := List.getElem?_eq_getElem hk
  have hfm := firsts_mem.1 (List.getElem_mem hk)
  have a := same_ofI ht hi hf
  have b := same_ofI ht hj hf
  generalize (firsts R n)[ofI R n i - 1] = f at *
  have e : ofI R n i - 1 + 1 = ofI R n i := by omega
  rw [e] at a b
  rw [decide_eq_true rfl] at a
  rw [Bool.eq_iff_iff, decide_eq_true_eq]
  constructor
  · intro h
    rw [← h, decide_eq_true rfl] at b
    exact sameC_trans ht (i := i) (j := f) (k := j) hi hfm.1 hj (by rw [sameC_symm]; exact a) b
  · intro h
    have := sameC_trans ht (i := f) (j := i) (k := j) hfm.1 hi hj a h
    rw [this] at b
    exact (of_decide_eq_true b.symm).symm

theorem comp_get {R : List (List Bool)} {n k f : Nat} (hf : (firsts R n)[k]? = some f) : (compsTo R n n)[k]? = some (compRow R n f) := by rw [comps_firsts, List.getElem?_map, hf]; rfl
theorem comp_filter {n : Nat} {R : List (List Bool)} (ht : TransR n R) {k f : Nat} (hf : (firsts R n)[k]? = some f) : compRow R n f = (List.range n).filter fun x => decide (ofI R n x = k + 1) := by
  unfold compRow
  exact List.filter_congr fun x hx => same_ofI ht (List.mem_range.1 hx) hf
theorem comp_sorted (R : List (List Bool)) (n f : Nat) : (compRow R n f).Pairwise (· < ·) := List.Pairwise.filter _ List.pairwise_lt_range
/-- The first of a component stands first in it. -/
theorem comp_head {R : List (List Bool)} {n f : Nat} (hf : f ∈ firsts R n) : (compRow R n f)[0]? = some f := by
  obtain ⟨hfn, hff⟩ := firsts_mem.1 hf
  have hm : f ∈ compRow R n f := mem_compRow.2 ⟨hfn, sameC_self R f⟩
  obtain ⟨i, hi, he⟩ := List.mem_iff_getElem.1 hm
  have h0 : 0 < (compRow R n f).length := by omega
  rw [List.getElem?_eq_getElem h0]
  congr 1
  by_cases e : i = 0
  · subst e; exact he
  · exfalso
    have hlt := (List.pairwise_iff_getElem.1 (comp_sorted R n f)) 0 i h0 hi (by omega)
    rw [he] at hlt
    have hx := (mem_compRow.1 (List.getElem_mem h0)).2
    unfold firstB at hff
    have := List.all_eq_true.1 hff _ (List.mem_range.2 hlt)
    rw [hx] at this; cases this

/-- What is written down of the components, when k of them and i of the next are done. -/
def vecI (R : List (List Bool)) (n k : Nat) (S : List Nat) : List Nat := (List.range n).map fun x => if ofI R n x ≤ k then ofI R n x else if x ∈ S then k + 1 else 0
theorem vecI_len (R : List (List Bool)) (n k : Nat) (S : List Nat) : (vecI R n k S).length = n := by simp [vecI]
theorem vecI_get {R : List (List Bool)} {n k : Nat} {S : List Nat} {x : Nat} (hx : x < n) : (vecI R n k S)[x]? = some (if ofI R n x ≤ k then ofI R n x else if x ∈ S then k + 1 else 0) := by
  unfold vecI
  rw [List.getElem?_map, List.getElem?_range hx]; rfl
theorem vecI_new {R : List (List Bool)} {n k : Nat} {S : List Nat} {x : Nat} (hx : x < n) (h1 : ofI R n x = k + 1) (h2 : x ∉ S) : (vecI R n k S)[x]? = some 0 := by
  rw [vecI_get hx, if_neg (by omega), if_neg h2]
theorem vecI_set {R : List (List Bool)} {n k : Nat} {S : List Nat} {x : Nat} (hx : x < n) (h1 : ofI R n x = k + 1) : vecI R n k (S ++ [x]) = (vecI R n k S).set x (k + 1) := by
  refine List.ext_getElem? fun y => ?_
  by_cases hy : y < n
  · by_cases e : y = x
    · subst e
      rw [List.getElem?_set_self (by rw [vecI_len]; exact hy), vecI_get hy, if_neg (by omega), if_pos (by simp)]
    · rw [List.getElem?_set_ne (Ne.symm e), vecI_get hy, vecI_get hy]
      have : y ∈ S ++ [x] ↔ y ∈ S := by simp [e]
      simp only [this]
  · rw [List.getElem?_eq_none (by rw [vecI_len]; omega), List.getElem?_eq_none (by rw [List.length_set, vecI_len]; omega)]
theorem vecI_zero (R : List (List Bool)) (n : Nat) : vecI R n 0 [] = List.replicate n 0 := by
  rw [List.eq_replicate_iff]
  refine ⟨vecI_len R n 0 [], fun b hb => ?_⟩
  unfold vecI at hb
  obtain ⟨x, _, rfl⟩ := List.mem_map.1 hb
  rw [if_neg (by unfold ofI; omega), if_neg (by simp)]
theorem vecI_next {n : Nat} {R : List (List Bool)} (ht : TransR n R) {k f : Nat} (hf : (firsts R n)[k]? = some f) : vecI R n k (compRow R n f) = vecI R n (k + 1) [] := by
  unfold vecI
  refine List.map_congr_left fun x hx => ?_
  have hx := List.mem_range.1 hx
  have hm : x ∈ compRow R n f ↔ ofI R n x = k + 1 := by rw [mem_compRow, same_ofI ht hx hf, decide_eq_true_eq]; exact ⟨fun h => h.2, fun h => ⟨hx, h⟩⟩
  by_cases h1 : ofI R n x ≤ k
  · rw [if_pos h1, if_pos (by omega)]
  · rw [if_neg h1]
    by_cases h2 : ofI R n x = k + 1
    · rw [if_pos (hm.2 h2), if_pos (by omega), h2]
    · rw [if_neg (fun h => h2 (hm.1 h)), if_neg (by omega), if_neg (by simp)]
theorem vecI_end {n : Nat} {R : List (List Bool)} (ht : TransR n R) {x : Nat} (hx : x < n) : (vecI R n (firsts R n).length [])[x]? = some (ofI R n x) := by
  rw [vecI_get hx, if_pos (ofI_le ht hx)]

/-- How many lines are in the first k components. -/
def metI (R : List (List Bool)) (n k : Nat) : Nat := ((List.range n).filter fun x => decide (ofI R n x ≤ k)).length
theorem filter_two (l : List Nat) (g : Nat → Nat) (k : Nat) : (l.filter fun x => decide (g x ≤ k + 1)).length = (l.filter fun x => decide (g x ≤ k)).length + (l.filter fun x => decide (g x = k + 1)).length := by
  induction l with
  | nil => rfl
  | cons x l ih =>
    rw [List.filter_cons, List.filter_cons, List.filter_cons]
    by_cases h1 : g x ≤ k
    · have e1 : decide (g x ≤ k + 1) = true := by simp; omega
      have e2 : decide (g x ≤ k) = true := by simpa using h1
      have e3 : decide (g x = k + 1) = false := by simp; omega
      rw [e1, e2, e3]
      simp only [if_true, Bool.false_eq_true, if_false, List.length_cons]
      omega
    · have e2 : decide (g x ≤ k) = false := by simpa using h1
      by_cases h3 : g x = k + 1
      · have e1 : decide (g x ≤ k + 1) = true := by simp; omega
        have e3 : decide (g x = k + 1) = true := by simpa using h3
        rw [e1, e2, e3]
        simp only [if_true, Bool.false_eq_true, if_false, List.length_cons]
        omega
      · have e1 : decide (g x ≤ k + 1) = false := by simp; omega
        have e3 : decide (g x = k + 1) = false := by simpa using h3
        rw [e1, e2, e3]
        simp only [Bool.false_eq_true, if_false]
        exact ih
theorem metI_next {n : Nat} {R : List (List Bool)} (ht : TransR n R) {k f : Nat} (hf : (firsts R n)[k]? = some f) : metI R n (k + 1) = metI R n k + (compRow R n f).length := by
  rw [comp_filter ht hf]
  exact filter_two _ _ _
theorem metI_zero (R : List (List Bool)) (n : Nat) : metI R n 0 = 0 := by
  unfold metI
  rw [List.length_eq_zero_iff, List.filter_eq_nil_iff]
  intro x _
  simp [ofI]
theorem metI_end {n : Nat} {R : List (List Bool)} (ht : TransR n R) : metI R n (firsts R n).length = n := by
  unfold metI
  rw [List.filter_eq_self.2 fun x hx => by rw [decide_eq_true_eq]; exact ofI_le ht (List.mem_range.1 hx), List.length_range]
theorem metI_le (R : List (List Bool)) (n k : Nat) : metI R n k ≤ n := by
  have := List.length_filter_le (fun x => decide (ofI R n x ≤ k)) (List.range n)
  rwa [List.length_range] at this
end Go.Proofs.Lg

namespace Go.Proofs.Lh
open Go Go.Bb Go.RowKit Go.Proofs.Lg
open Go.Ab (RD RDs D)

def iblk (r : List Nat) : AObj := .vec 3 1 (r.map fun (m : Nat) => .d (.sc (.int .i64 m)))
theorem iblk_set' (r : List Nat) (j : Nat) (b : Nat) (hj : j < r.length) : iblk (r.set j b) = .vec 3 1 ((r.take j).map (fun m => AV.d (.sc (.int .i64 (m : Nat)))) ++ AV.d (.sc (.int .i64 b)) :: (r.drop (j + 1)).map fun m => AV.d (.sc (.int .i64 (m : Nat)))) := by
  unfold iblk
  congr 1
  rw [List.map_set, List.set_eq_take_append_cons_drop, if_pos (by simpa using hj)]
  simp [List.map_take, List.map_drop]
theorem nneg (x : Nat) : decide ((x : Int) < 0) = false := by simp
theorem eqKb2 (b c : Bool) : eqKs [.b] [.bool b] [.bool c] = some (b == c) := by simp [eqKs]

set_option maxRecDepth 10000 in
set_option maxHeartbeats 8000000 in
theorem compsLaw_fn (haw : AFn Tryz.prog 6 [] (.sc (.bool true))) {g : Gr} (hg : GrAny g) : AFn Tryz.prog 4 [dGraph g] (.sc (.bool true)) := by
  have h22 : 2 ≤ 2 := Nat.le_refl _
  have hgr := Great_fn hg.okl hg.len hg.elen
  refine AFn_of (F := k_LinegraphComponents) (okb_LinegraphComponents.trans (by kernel_rfl)) (by simp [k_LinegraphComponents]) ?_
  simp only [k_LinegraphComponents, dGraph]
  rw [wpK_seq]
  generalize hB1 : SeqQ _ _ = B1
  simp only [h22, ↓Both_true, ↓Both_false, wx, reduceCtorEq, reduceIte, Nat.reduceAdd, Nat.reduceEqDiff, Nat.reduceLT, Nat.reduceLeDiff, wj, ← List.map_take, ← List.map_drop]
  subst hB1
  simp only [SeqQ]
  rw [wpK_seq]
  generalize hB2 : SeqQ _ _ = B2
  simp only [h22, dLines, ↓Both_true, ↓Both_false, wx, reduceCtorEq, reduceIte, Nat.reduceAdd, Nat.reduceEqDiff, Nat.reduceLT, Nat.reduceLeDiff, wj, ← List.map_take, ← List.map_drop]
  subst hB2
  simp only [SeqQ]
  rw [wpK_seq]
  generalize hQ3 : SeqQ _ _ = Q3
  simp only [h22, undef, ↓Both_true, ↓Both_false, wx, reduceCtorEq, reduceIte, Nat.reduceAdd, Nat.reduceEqDiff, Nat.reduceLT, Nat.reduceLeDiff, wj, ← List.map_take, ← List.map_drop]
  refine CallM.data hgr rfl ?_
  cases hbig : g.big with
  | true =>
    simp only [h22, dBool, undef, ↓Both_true, ↓Both_false, wx, reduceCtorEq, reduceIte, Nat.reduceAdd, Nat.reduceEqDiff, Nat.reduceLT, Nat.reduceLeDiff, wj, ← List.map_take, ← List.map_drop]
    refine CallM.data haw rfl ?_
    simp only [h22, dBool, ↓Both_true, ↓Both_false, wx, reduceCtorEq, reduceIte, Nat.reduceAdd, Nat.reduceEqDiff, Nat.reduceLT, Nat.reduceLeDiff, wj, ← List.map_take, ← List.map_drop]
    subst hQ3
    simp only [dBool, deepD, AV.toL, ↓Both_true, ↓Both_false, wx, reduceCtorEq, reduceIte, Nat.reduceAdd, Nat.reduceEqDiff, Nat.reduceLT, Nat.reduceLeDiff, wj, ← List.map_take, ← List.map_drop]
  | false =>
    have hok := hg.ok hbig
    simp only [h22, dBool, undef, ↓Both_true, ↓Both_false, wx, reduceCtorEq, reduceIte, Nat.reduceAdd, Nat.reduceEqDiff, Nat.reduceLT, Nat.reduceLeDiff, wj, ← List.map_take, ← List.map_drop]
    refine CallM.data (refCheck_fn hok) rfl ?_
    by_cases hck : g.check = 0
    case neg =>
      have q1 : (g.check != 0) = true := by simpa using hck
      simp only [h22, q1, dBool, undef, ↓Both_true, ↓Both_false, wx, reduceCtorEq, reduceIte, Nat.reduceAdd, Nat.reduceEqDiff, Nat.reduceLT, Nat.reduceLeDiff, wj, ← List.map_take, ← List.map_drop]
      refine CallM.data haw rfl ?_
      simp only [h22, dBool, ↓Both_true, ↓Both_false, wx, reduceCtorEq, reduceIte, Nat.reduceAdd, Nat.reduceEqDiff, Nat.reduceLT, Nat.reduceLeDiff, wj, ← List.map_take, ← List.map_drop]
      subst hQ3
      simp only [dBool, deepD, AV.toL, ↓Both_true, ↓Both_false, wx, reduceCtorEq, reduceIte, Nat.reduceAdd, Nat.reduceEqDiff, Nat.reduceLT, Nat.reduceLeDiff, wj, ← List.map_take, ← List.map_drop]
    have q1 : (g.check != 0) = false := by simp [hck]
    have hq := g.sq
    have ht := g.transR
    have hdim : g.dim = g.lines.length := by unfold Gr.dim; rw [if_pos hck]
    have hn := hok.few
    have hR := linReaches_fn hok
    have hC := linComponents_fn hok
    rw [hdim] at hq ht hC
    generalize g.reach = R at *
    generalize hnn : g.lines.length = n at *
    have hRl := hq.1
    rw [comps_firsts] at hC
    have hfl := firsts_len R n
    simp only [h22, q1, dBool, undef, ↓Both_true, ↓Both_false, wx, reduceCtorEq, reduceIte, Nat.reduceAdd, Nat.reduceEqDiff, Nat.reduceLT, Nat.reduceLeDiff, wj, ← List.map_take, ← List.map_drop]
    subst hQ3
    simp only [SeqQ]
    rw [wpK_seq]
    generalize hB4 : SeqQ _ _ = B4
    simp only [h22, ↓Both_true, ↓Both_false, wx, reduceCtorEq, reduceIte, Nat.reduceAdd, Nat.reduceEqDiff, Nat.reduceLT, Nat.reduceLeDiff, wj, ← List.map_take, ← List.map_drop]
    refine CallM.data hR rfl ?_
    simp only [dRows, ↓Both_true, ↓Both_false, wx, reduceCtorEq, reduceIte, Nat.reduceAdd, Nat.reduceEqDiff, Nat.reduceLT, Nat.reduceLeDiff, wj, ← List.map_take, ← List.map_drop]
    subst hB4
    simp only [SeqQ]
    have n1 : (n : Int) * ((8 : Nat) : Int) ≤ 140737488355328 := by omega
    have n2 : (n : Int) ≤ 140737488355328 := by omega
    rw [wpK_seq]
    generalize hB5 : SeqQ _ _ = B5
    simp only [n1, n2, Int.le_refl, ↓Both_true, ↓Both_false, wx, reduceCtorEq, reduceIte, Nat.reduceAdd, Nat.reduceEqDiff, Nat.reduceLT, Nat.reduceLeDiff, wj, ← List.map_take, ← List.map_drop]
    subst hB5
    simp only [SeqQ]
    rw [wpK_seq]
    generalize hB6 : SeqQ _ _ = B6
    simp only [↓Both_true, ↓Both_false, wx, reduceCtorEq, reduceIte, Nat.reduceAdd, Nat.reduceEqDiff, Nat.reduceLT, Nat.reduceLeDiff, wj, ← List.map_take, ← List.map_drop]
    subst hB6
    simp only [SeqQ]
    rw [wpK_seq]
    generalize hB7 : SeqQ _ _ = B7
    simp only [h22, ↓Both_true, ↓Both_false, wx, reduceCtorEq, reduceIte, Nat.reduceAdd, Nat.reduceEqDiff, Nat.reduceLT, Nat.reduceLeDiff, wj, ← List.map_take, ← List.map_drop]
    refine CallM.data hC rfl ?_
    simp only [dIntss, ↓Both_true, ↓Both_false, wx, reduceCtorEq, reduceIte, Nat.reduceAdd, Nat.reduceEqDiff, Nat.reduceLT, Nat.reduceLeDiff, wj, ← List.map_take, ← List.map_drop]
    subst hB7
    simp only [SeqQ]
    rw [wpK_seq]
    generalize hB8 : SeqQ _ _ = B8
    simp only [↓Both_true, ↓Both_false, wx, reduceCtorEq, reduceIte, Nat.reduceAdd, Nat.reduceEqDiff, Nat.reduceLT, Nat.reduceLeDiff, wj, ← List.map_take, ← List.map_drop]
    have hz : (List.replicate n (AV.d (D.sc (Value.int IntKind.i64 0)))) = (vecI R n 0 []).map fun (m : Nat) => AV.d (D.sc (Value.int IntKind.i64 m)) := by rw [vecI_zero, List.map_replicate]; rfl
    rw [hz]
    clear hz
    generalize AObj.cells [AV.d (D.sl 35 (List.map vrow g.lines)), AV.d (dEdges g.edges)] = A
    generalize hPP : List.map srow (List.map (compRow R n) (firsts R n)) = P
    have hPl : P.length = (firsts R n).length := by rw [← hPP, List.length_map, List.length_map]
    have hPg : ∀ {k f : Nat}, (firsts R n)[k]? = some f → P[k]? = some [.sl 1 ((compRow R n f).map nrow)] := fun h => by rw [← hPP, List.getElem?_map, List.getElem?_map, h]; rfl
    refine LoopK.count (fun k => [(33, .d (.sc (.int .i64 k))), (32, .d (.sc (.int .i64 (firsts R n).length))), (31, .d (.sl 1 P)), (7, .d (.sl 1 P)), (3, .d (.sc (.int .i64 n))), (5, .vec 1 n 1), (6, .d (.sc (.int .i64 (metI R n k)))), (4, .d (.sl 1 (R.map brow)))]) (fun k => [A, iblk (vecI R n k [])]) (fun _ => True) (firsts R n).length (by simp [SubB, Go.Bb.look, metI_zero, hPl]) rfl trivial fun k hk _ => ?_
    by_cases hlt : k < (firsts R n).length
    · have h1 : decide ((k : Int) < ((firsts R n).length : Int)) = true := by simpa using hlt
      have h3 : IntKind.i64.wrap ((k : Int) + 1) = ((k + 1 : Nat) : Int) := wrapN (by omega) (by omega)
      obtain ⟨f, hf⟩ : ∃ f, (firsts R n)[k]? = some f := ⟨_, List.getElem?_eq_getElem hlt⟩
      have hfm := List.mem_of_getElem? hf
      have hpk := hPg hf
      have hp0 := comp_head hfm
      have hps := comp_sorted R n f
      have hpm : ∀ x ∈ compRow R n f, x < n ∧ ofI R n x = k + 1 := fun x hx => by
        have h := mem_compRow.1 hx
        have := same_ofI ht h.1 hf
        rw [h.2] at this
        exact ⟨h.1, of_decide_eq_true this.symm⟩
      have hnext := vecI_next ht hf
      have hmet := metI_next ht hf
      have hml := metI_le R n (k + 1)
      have hpl : (compRow R n f).length ≤ n := row_len R f n
      have hprev : 0 < k → ∃ f', (firsts R n)[k - 1]? = some f' ∧ f' < f := fun h0 => by
        have hk1 : k - 1 < (firsts R n).length := by omega
        refine ⟨_, List.getElem?_eq_getElem hk1, ?_⟩
        have := (List.pairwise_iff_getElem.1 (firsts_sorted R n)) (k - 1) k hk1 hlt (by omega)
        rwa [(List.getElem?_eq_some_iff.1 hf).2] at this
      generalize compRow R n f = p at hpk hp0 hps hpm hnext hmet hpl
      have hpne : 0 < p.length := (List.getElem?_eq_some_iff.1 hp0).1
      rw [wpK_seq]
      generalize hB9 : SeqQ _ _ = B9
      simp only [h1, ↓Both_true, ↓Both_false, wx, reduceCtorEq, reduceIte, Nat.reduceAdd, Nat.reduceEqDiff, Nat.reduceLT, Nat.reduceLeDiff, wj, ← List.map_take, ← List.map_drop]
      subst hB9
      simp only [SeqQ]
      rw [wpK_seq]
      generalize hB10 : SeqQ _ _ = B10
      simp only [↓Both_true, ↓Both_false, wx, reduceCtorEq, reduceIte, Nat.reduceAdd, Nat.reduceEqDiff, Nat.reduceLT, Nat.reduceLeDiff, wj, ← List.map_take, ← List.map_drop]
      subst hB10
      simp only [SeqQ]
      rw [wpK_seq]
      generalize hB11 : SeqQ _ _ = B11
      rw [wpK_block]
      generalize hB12 : BlockQ _ _ = B12
      rw [wpK_seq]
      generalize hB13 : SeqQ _ _ = B13
      simp only [hpk, ↓Both_true, ↓Both_false, wx, reduceCtorEq, reduceIte, Nat.reduceAdd, Nat.reduceEqDiff, Nat.reduceLT, Nat.reduceLeDiff, wj, ← List.map_take, ← List.map_drop]
      subst hB13
      simp only [SeqQ]
      rw [wpK_seq]
      generalize hB14 : SeqQ _ _ = B14
      rw [wpK_seq]
      generalize hB15 : SeqQ _ _ = B15
      have q2 : ((p.length : Int) == 0) = false := beq_eq_false_iff_ne.2 (by omega)
      have z0 : (0 : Int).toNat = 0 := rfl
      have z1 : ((0 : Int) ≤ 0) = True := by simp
      by_cases h0 : 0 < k
      case' pos =>
        have f5 : decide ((k : Int) > 0) = true := by simp; omega
        have f6 : IntKind.i64.wrap ((k : Int) - 1) = ((k - 1 : Nat) : Int) := wrapN (by omega) (by omega)
        obtain ⟨f', hf', hff⟩ := hprev h0
        have hpk' := hPg hf'
        have hp0' := comp_head (List.mem_of_getElem? hf')
        have f7 : decide ((f' : Int) ≥ (f : Int)) = false := by simp; omega
        simp only [q2, f5, f6, f7, hpk, hpk', hp0, hp0', nrow, z0, z1, undef, ↓Both_true, ↓Both_false, wx, reduceCtorEq, reduceIte, Nat.reduceAdd, Nat.reduceEqDiff, Nat.reduceLT, Nat.reduceLeDiff, wj, ← List.map_take, ← List.map_drop]
        refine ⟨(ordF_coarse (by simp only [List.map_cons, List.map_nil, coarse_rd, coarse_wr]; rfl)), ?_⟩
      case' neg =>
        have f5 : decide ((k : Int) > 0) = false := by simp; omega
        simp only [q2, f5, undef, ↓Both_true, ↓Both_false, wx, reduceCtorEq, reduceIte, Nat.reduceAdd, Nat.reduceEqDiff, Nat.reduceLT, Nat.reduceLeDiff, wj, ← List.map_take, ← List.map_drop]
        refine ⟨(ordF_coarse (by simp only [List.map_cons, List.map_nil, coarse_rd, coarse_wr]; rfl)), ?_⟩
      all_goals (
        subst hB15
        simp only [SeqQ, ↓Both_true, ↓Both_false, wx, reduceCtorEq, reduceIte, Nat.reduceAdd, Nat.reduceEqDiff, Nat.reduceLT, Nat.reduceLeDiff, wj, ← List.map_take, ← List.map_drop]
        subst hB14
        simp only [SeqQ]
        rw [wpK_seq]
        generalize hB16 : SeqQ _ _ = B16
        simp only [↓Both_true, ↓Both_false, wx, reduceCtorEq, reduceIte, Nat.reduceAdd, Nat.reduceEqDiff, Nat.reduceLT, Nat.reduceLeDiff, wj, ← List.map_take, ← List.map_drop]
        subst hB16
        simp only [SeqQ]
        simp only [↓Both_true, ↓Both_false, wx, reduceCtorEq, reduceIte, Nat.reduceAdd, Nat.reduceEqDiff, Nat.reduceLT, Nat.reduceLeDiff, wj, ← List.map_take, ← List.map_drop]
        refine LoopK.count (fun i => [(60, .d (.sc (.int .i64 i))), (59, .d (.sc (.int .i64 p.length))), (58, .d (.sl 1 (p.map nrow))), (9, .d (.sl 1 (p.map nrow))), (8, .d (.sc (.int .i64 k))), (3, .d (.sc (.int .i64 n))), (5, .vec 1 n 1), (6, .d (.sc (.int .i64 (metI R n k + i : Nat)))), (33, .d (.sc (.int .i64 k))), (32, .d (.sc (.int .i64 (firsts R n).length))), (31, .d (.sl 1 P)), (7, .d (.sl 1 P)), (4, .d (.sl 1 (R.map brow)))]) (fun i => [A, iblk (vecI R n k (p.take i))]) (fun _ => True) p.length (by simp [SubB, Go.Bb.look, intD]) rfl trivial fun i hi _ => ?_
        by_cases hip : i < p.length
        · have g1 : decide ((i : Int) < (p.length : Int)) = true := by simpa using hip
          have g3 : IntKind.i64.wrap ((i : Int) + 1) = ((i + 1 : Nat) : Int) := wrapN (by omega) (by omega)
          have g4 : IntKind.i64.wrap (((metI R n k + i : Nat) : Int) + 1) = ((metI R n k + (i + 1) : Nat) : Int) := wrapN (by omega) (by omega)
          obtain ⟨x, hx⟩ : ∃ x, p[i]? = some x := ⟨_, List.getElem?_eq_getElem hip⟩
          have hxm := hpm x (List.mem_of_getElem? hx)
          have hxn : x < n := hxm.1
          have hxn1 : x + 1 ≤ n := hxn
          have htk : p.take (i + 1) = p.take i ++ [x] := by rw [List.take_add_one, hx]; rfl
          have hnotin : x ∉ p.take i := fun hm => by
            obtain ⟨j, hj, e⟩ := List.mem_iff_getElem.1 hm
            rw [List.length_take] at hj
            rw [List.getElem_take] at e
            have := (List.pairwise_iff_getElem.1 hps) j i (by omega) hip (by omega)
            rw [e, (List.getElem?_eq_some_iff.1 hx).2] at this
            omega
          have hnew := vecI_new hxn hxm.2 hnotin
          have hset := vecI_set (S := p.take i) hxn hxm.2
          have hput := iblk_set' (vecI R n k (p.take i)) x (k + 1) (by rw [vecI_len]; exact hxn)
          have hvl := vecI_len R n k (p.take i)
          have e1 := nneg x
          have e2 : decide ((x : Int) ≥ (n : Int)) = false := by simp; omega
          have e3 : (((0 : Nat) : Int) != 0) = false := by decide
          have hpy : 0 < i → ∃ y, p[i - 1]? = some y ∧ y < x := fun h0 => by
            have hk1 : i - 1 < p.length := by omega
            refine ⟨_, List.getElem?_eq_getElem hk1, ?_⟩
            have := (List.pairwise_iff_getElem.1 hps) (i - 1) i hk1 hip (by omega)
            rwa [(List.getElem?_eq_some_iff.1 hx).2] at this
          rw [wpK_seq]
          generalize hB17 : SeqQ _ _ = B17
          simp only [g1, ↓Both_true, ↓Both_false, wx, reduceCtorEq, reduceIte, Nat.reduceAdd, Nat.reduceEqDiff, Nat.reduceLT, Nat.reduceLeDiff, wj, ← List.map_take, ← List.map_drop]
          subst hB17
          simp only [SeqQ]
          rw [wpK_seq]
          generalize hB18 : SeqQ _ _ = B18
          simp only [↓Both_true, ↓Both_false, wx, reduceCtorEq, reduceIte, Nat.reduceAdd, Nat.reduceEqDiff, Nat.reduceLT, Nat.reduceLeDiff, wj, ← List.map_take, ← List.map_drop]
          subst hB18
          simp only [SeqQ]
          rw [wpK_seq]
          generalize hB19 : SeqQ _ _ = B19
          rw [wpK_block]
          generalize hB20 : BlockQ _ _ = B20
          rw [wpK_seq]
          generalize hB21 : SeqQ _ _ = B21
          simp only [hx, nrow, ↓Both_true, ↓Both_false, wx, reduceCtorEq, reduceIte, Nat.reduceAdd, Nat.reduceEqDiff, Nat.reduceLT, Nat.reduceLeDiff, wj, ← List.map_take, ← List.map_drop]
          subst hB21
          simp only [SeqQ]
          rw [wpK_seq]
          generalize hB22 : SeqQ _ _ = B22
          rw [wpK_seq]
          generalize hB23 : SeqQ _ _ = B23
          by_cases hi0 : 0 < i
          case' pos =>
            have e5 : decide ((i : Int) > 0) = true := by simp; omega
            have e6 : IntKind.i64.wrap ((i : Int) - 1) = ((i - 1 : Nat) : Int) := wrapN (by omega) (by omega)
            obtain ⟨y, hy, hyx⟩ := hpy hi0
            have e7 : decide ((y : Int) ≥ (x : Int)) = false := by simp; omega
            simp only [e1, e2, e3, e5, e6, e7, hy, hnew, hvl, hxn, iblk, nrow, Nat.mul_one, undef, ↓Both_true, ↓Both_false, wx, reduceCtorEq, reduceIte, Nat.reduceAdd, Nat.reduceEqDiff, Nat.reduceLT, Nat.reduceLeDiff, wj, ← List.map_take, ← List.map_drop]
          case' neg =>
            have e5 : decide ((i : Int) > 0) = false := by simp; omega
            simp only [e1, e2, e3, e5, hnew, hvl, hxn, iblk, nrow, Nat.mul_one, undef, ↓Both_true, ↓Both_false, wx, reduceCtorEq, reduceIte, Nat.reduceAdd, Nat.reduceEqDiff, Nat.reduceLT, Nat.reduceLeDiff, wj, ← List.map_take, ← List.map_drop]
          all_goals (
            subst hB23
            simp only [SeqQ, ↓Both_true, ↓Both_false, wx, reduceCtorEq, reduceIte, Nat.reduceAdd, Nat.reduceEqDiff, Nat.reduceLT, Nat.reduceLeDiff, wj, ← List.map_take, ← List.map_drop]
            subst hB22
            simp only [SeqQ, h3, g4, hvl, hxn, hxn1, iblk, Nat.mul_one, ↓Both_true, ↓Both_false, wx, reduceCtorEq, reduceIte, Nat.reduceAdd, Nat.reduceEqDiff, Nat.reduceLT, Nat.reduceLeDiff, wj, ← List.map_take, ← List.map_drop]
            subst hB20
            simp only [BlockQ]
            subst hB19
            simp only [SeqQ, g3, hip, ↓Both_true, ↓Both_false, wx, reduceCtorEq, reduceIte, Nat.reduceAdd, Nat.reduceEqDiff, Nat.reduceLT, Nat.reduceLeDiff, wj, ← List.map_take, ← List.map_drop]
            rw [htk, hset, hput])
        · obtain rfl : i = p.length := by omega
          have g1 : decide ((p.length : Int) < (p.length : Int)) = false := by simp
          simp only [g1, ↓Both_true, ↓Both_false, wx, reduceCtorEq, reduceIte, Nat.reduceAdd, Nat.reduceEqDiff, Nat.reduceLT, Nat.reduceLeDiff, wj, ← List.map_take, ← List.map_drop]
          subst hB12
          simp only [BlockQ]
          subst hB11
          simp only [SeqQ, h3, hlt, ↓Both_true, ↓Both_false, wx, reduceCtorEq, reduceIte, Nat.reduceAdd, Nat.reduceEqDiff, Nat.reduceLT, Nat.reduceLeDiff, wj, ← List.map_take, ← List.map_drop]
          rw [hnext, hmet]
          exact ⟨rfl, rfl⟩)
    · obtain rfl : k = (firsts R n).length := by omega
      have h1 : decide (((firsts R n).length : Int) < ((firsts R n).length : Int)) = false := by simp
      simp only [h1, ↓Both_true, ↓Both_false, wx, reduceCtorEq, reduceIte, Nat.reduceAdd, Nat.reduceEqDiff, Nat.reduceLT, Nat.reduceLeDiff, wj, ← List.map_take, ← List.map_drop]
      subst hB8
      simp only [SeqQ]
      rw [metI_end ht]
      have hVl := vecI_len R n (firsts R n).length []
      have hVg : ∀ {x : Nat}, x < n → (vecI R n (firsts R n).length [])[x]? = some (ofI R n x) := fun h => vecI_end ht h
      generalize vecI R n (firsts R n).length [] = V at hVl hVg
      rw [wpK_seq]
      generalize hB24 : SeqQ _ _ = B24
      rw [wpK_seq]
      generalize hB25 : SeqQ _ _ = B25
      simp only [bne_self_eq_false, hRl, undef, ↓Both_true, ↓Both_false, wx, reduceCtorEq, reduceIte, Nat.reduceAdd, Nat.reduceEqDiff, Nat.reduceLT, Nat.reduceLeDiff, wj, ← List.map_take, ← List.map_drop]
      subst hB25
      simp only [SeqQ, ↓Both_true, ↓Both_false, wx, reduceCtorEq, reduceIte, Nat.reduceAdd, Nat.reduceEqDiff, Nat.reduceLT, Nat.reduceLeDiff, wj, ← List.map_take, ← List.map_drop]
      subst hB24
      simp only [SeqQ]
      rw [wpK_seq]
      generalize hB26 : SeqQ _ _ = B26
      rw [wpK_seq]
      generalize hB27 : SeqQ _ _ = B27
      simp only [↓Both_true, ↓Both_false, wx, reduceCtorEq, reduceIte, Nat.reduceAdd, Nat.reduceEqDiff, Nat.reduceLT, Nat.reduceLeDiff, wj, ← List.map_take, ← List.map_drop]
      subst hB27
      simp only [SeqQ]
      simp only [↓Both_true, ↓Both_false, wx, reduceCtorEq, reduceIte, Nat.reduceAdd, Nat.reduceEqDiff, Nat.reduceLT, Nat.reduceLeDiff, wj, ← List.map_take, ← List.map_drop]
      refine LoopK.count (fun i => [(111, .d (.sc (.int .i64 i))), (110, .d (.sc (.int .i64 n))), (3, .d (.sc (.int .i64 n))), (5, .vec 1 n 1), (4, .d (.sl 1 (R.map brow)))]) (fun _ => [A, iblk V]) (fun _ => True) n (by simp [SubB, Go.Bb.look, intD]) rfl trivial fun i hi _ => ?_
      by_cases hin : i < n
      · have g1 : decide ((i : Int) < (n : Int)) = true := by simpa using hin
        have g3 : IntKind.i64.wrap ((i : Int) + 1) = ((i + 1 : Nat) : Int) := wrapN (by omega) (by omega)
        have hVi := hVg hin
        obtain ⟨r, hr⟩ : ∃ r, R[i]? = some r := ⟨_, List.getElem?_eq_getElem (by rw [hRl]; exact hin)⟩
        have hrn := hq.2 r (List.mem_of_getElem? hr)
        rw [wpK_seq]
        generalize hB40 : SeqQ _ _ = B40
        simp only [g1, ↓Both_true, ↓Both_false, wx, reduceCtorEq, reduceIte, Nat.reduceAdd, Nat.reduceEqDiff, Nat.reduceLT, Nat.reduceLeDiff, wj, ← List.map_take, ← List.map_drop]
        subst hB40
        simp only [SeqQ]
        rw [wpK_seq]
        generalize hB41 : SeqQ _ _ = B41
        simp only [↓Both_true, ↓Both_false, wx, reduceCtorEq, reduceIte, Nat.reduceAdd, Nat.reduceEqDiff, Nat.reduceLT, Nat.reduceLeDiff, wj, ← List.map_take, ← List.map_drop]
        subst hB41
        simp only [SeqQ]
        rw [wpK_seq]
        generalize hB28 : SeqQ _ _ = B28
        rw [wpK_block]
        generalize hB29 : BlockQ _ _ = B29
        rw [wpK_seq]
        generalize hB30 : SeqQ _ _ = B30
        simp only [↓Both_true, ↓Both_false, wx, reduceCtorEq, reduceIte, Nat.reduceAdd, Nat.reduceEqDiff, Nat.reduceLT, Nat.reduceLeDiff, wj, ← List.map_take, ← List.map_drop]
        subst hB30
        simp only [SeqQ]
        rw [wpK_seq]
        generalize hB31 : SeqQ _ _ = B31
        rw [wpK_seq]
        generalize hB32 : SeqQ _ _ = B32
        simp only [hr, hrn, brow, bne_self_eq_false, ↓Both_true, ↓Both_false, wx, reduceCtorEq, reduceIte, Nat.reduceAdd, Nat.reduceEqDiff, Nat.reduceLT, Nat.reduceLeDiff, wj, ← List.map_take, ← List.map_drop]
        subst hB32
        simp only [SeqQ, ↓Both_true, ↓Both_false, wx, reduceCtorEq, reduceIte, Nat.reduceAdd, Nat.reduceEqDiff, Nat.reduceLT, Nat.reduceLeDiff, wj, ← List.map_take, ← List.map_drop]
        subst hB31
        simp only [SeqQ]
        rw [wpK_seq]
        generalize hB33 : SeqQ _ _ = B33
        simp only [↓Both_true, ↓Both_false, wx, reduceCtorEq, reduceIte, Nat.reduceAdd, Nat.reduceEqDiff, Nat.reduceLT, Nat.reduceLeDiff, wj, ← List.map_take, ← List.map_drop]
        subst hB33
        simp only [SeqQ]
        simp only [↓Both_true, ↓Both_false, wx, reduceCtorEq, reduceIte, Nat.reduceAdd, Nat.reduceEqDiff, Nat.reduceLT, Nat.reduceLeDiff, wj, ← List.map_take, ← List.map_drop]
        refine LoopK.count (fun j => [(122, .d (.sc (.int .i64 j))), (121, .d (.sc (.int .i64 n))), (12, .d (.sc (.int .i64 i))), (111, .d (.sc (.int .i64 i))), (110, .d (.sc (.int .i64 n))), (3, .d (.sc (.int .i64 n))), (5, .vec 1 n 1), (4, .d (.sl 1 (R.map brow)))]) (fun _ => [A, iblk V]) (fun _ => True) n (by simp [SubB, Go.Bb.look, intD]) rfl trivial fun j hj _ => ?_
        by_cases hjn : j < n
        · have f1 : decide ((j : Int) < (n : Int)) = true := by simpa using hjn
          have f3 : IntKind.i64.wrap ((j : Int) + 1) = ((j + 1 : Nat) : Int) := wrapN (by omega) (by omega)
          have hVj := hVg hjn
          have e1 := natEq (ofI R n i) (ofI R n j)
          have e2 := natEq i j
          obtain ⟨ri, u1, u2⟩ := rel_get hq hin hjn
          obtain ⟨rk, w1, w2⟩ := rel_get hq hjn hin
          have hsame := ofI_same ht hin hjn
          rw [sameC_symm] at hsame
          unfold sameC at hsame
          rw [Bool.and_comm] at hsame
          generalize decide (ofI R n i = ofI R n j) = wv at e1 hsame
          generalize rel R i j = x at u2 hsame
          generalize rel R j i = y at w2 hsame
          generalize decide (i = j) = z at e2 hsame
          subst hsame
          rw [wpK_seq]
          generalize hB34 : SeqQ _ _ = B34
          simp only [f1, ↓Both_true, ↓Both_false, wx, reduceCtorEq, reduceIte, Nat.reduceAdd, Nat.reduceEqDiff, Nat.reduceLT, Nat.reduceLeDiff, wj, ← List.map_take, ← List.map_drop]
          subst hB34
          simp only [SeqQ]
          rw [wpK_seq]
          generalize hB35 : SeqQ _ _ = B35
          simp only [↓Both_true, ↓Both_false, wx, reduceCtorEq, reduceIte, Nat.reduceAdd, Nat.reduceEqDiff, Nat.reduceLT, Nat.reduceLeDiff, wj, ← List.map_take, ← List.map_drop]
          subst hB35
          simp only [SeqQ]
          rw [wpK_seq]
          generalize hB36 : SeqQ _ _ = B36
          rw [wpK_block]
          generalize hB37 : BlockQ _ _ = B37
          rw [wpK_seq]
          generalize hB38 : SeqQ _ _ = B38
          simp only [↓Both_true, ↓Both_false, wx, reduceCtorEq, reduceIte, Nat.reduceAdd, Nat.reduceEqDiff, Nat.reduceLT, Nat.reduceLeDiff, wj, ← List.map_take, ← List.map_drop]
          subst hB38
          simp only [SeqQ]
          rw [wpK_seq]
          generalize hB39 : SeqQ _ _ = B39
          cases z with
          | true =>
            have e3 : ((true || x && y) == true) = true := by simp
            simp only [e1, e2, e3, hVi, hVj, hVl, hin, hjn, u1, u2, w1, w2, iblk, brow, keyB, eqKb, Nat.mul_one, undef, ↓Both_true, ↓Both_false, wx, reduceCtorEq, reduceIte, Nat.reduceAdd, Nat.reduceEqDiff, Nat.reduceLT, Nat.reduceLeDiff, wj, ← List.map_take, ← List.map_drop]
            refine ⟨(ordF_coarse (by simp only [List.map_cons, List.map_nil, coarse_rd, coarse_wr]; rfl)), ?_⟩
            subst hB39
            simp only [SeqQ, ↓Both_true, ↓Both_false, wx, reduceCtorEq, reduceIte, Nat.reduceAdd, Nat.reduceEqDiff, Nat.reduceLT, Nat.reduceLeDiff, wj, ← List.map_take, ← List.map_drop]
            subst hB37
            simp only [BlockQ]
            subst hB36
            simp only [SeqQ, f3, hjn, ↓Both_true, ↓Both_false, wx, reduceCtorEq, reduceIte, Nat.reduceAdd, Nat.reduceEqDiff, Nat.reduceLT, Nat.reduceLeDiff, wj, ← List.map_take, ← List.map_drop]
            rfl
          | false =>
            cases x with
            | false =>
              have e3 : ((false || false && y) == false) = true := by simp
              simp only [e1, e2, e3, hVi, hVj, hVl, hin, hjn, u1, u2, w1, w2, iblk, brow, keyB, eqKb, Nat.mul_one, undef, ↓Both_true, ↓Both_false, wx, reduceCtorEq, reduceIte, Nat.reduceAdd, Nat.reduceEqDiff, Nat.reduceLT, Nat.reduceLeDiff, wj, ← List.map_take, ← List.map_drop]
              refine ⟨(ordF_coarse (by simp only [List.map_cons, List.map_nil, coarse_rd, coarse_wr]; rfl)), ?_⟩
              subst hB39
              simp only [SeqQ, ↓Both_true, ↓Both_false, wx, reduceCtorEq, reduceIte, Nat.reduceAdd, Nat.reduceEqDiff, Nat.reduceLT, Nat.reduceLeDiff, wj, ← List.map_take, ← List.map_drop]
              subst hB37
              simp only [BlockQ]
              subst hB36
              simp only [SeqQ, f3, hjn, ↓Both_true, ↓Both_false, wx, reduceCtorEq, reduceIte, Nat.reduceAdd, Nat.reduceEqDiff, Nat.reduceLT, Nat.reduceLeDiff, wj, ← List.map_take, ← List.map_drop]
              rfl
            | true =>
              have e3 : (y == y) = true := by simp
              simp only [e1, e2, e3, hVi, hVj, hVl, hin, hjn, u1, u2, w1, w2, iblk, brow, keyB, eqKb, Nat.mul_one, undef, ↓Both_true, ↓Both_false, wx, reduceCtorEq, reduceIte, Nat.reduceAdd, Nat.reduceEqDiff, Nat.reduceLT, Nat.reduceLeDiff, wj, ← List.map_take, ← List.map_drop]
              refine ⟨(ordF_coarse (by simp only [List.map_cons, List.map_nil, coarse_rd, coarse_wr]; rfl)), ?_⟩
              subst hB39
              simp only [SeqQ, ↓Both_true, ↓Both_false, wx, reduceCtorEq, reduceIte, Nat.reduceAdd, Nat.reduceEqDiff, Nat.reduceLT, Nat.reduceLeDiff, wj, ← List.map_take, ← List.map_drop]
              subst hB37
              simp only [BlockQ]
              subst hB36
              simp only [SeqQ, f3, hjn, ↓Both_true, ↓Both_false, wx, reduceCtorEq, reduceIte, Nat.reduceAdd, Nat.reduceEqDiff, Nat.reduceLT, Nat.reduceLeDiff, wj, ← List.map_take, ← List.map_drop]
              rfl
        · obtain rfl : n = j := by omega
          have f1 : decide ((n : Int) < (n : Int)) = false := by simp
          simp only [f1, ↓Both_true, ↓Both_false, wx, reduceCtorEq, reduceIte, Nat.reduceAdd, Nat.reduceEqDiff, Nat.reduceLT, Nat.reduceLeDiff, wj, ← List.map_take, ← List.map_drop]
          subst hB29
          simp only [BlockQ]
          subst hB28
          simp only [SeqQ, g3, hin, ↓Both_true, ↓Both_false, wx, reduceCtorEq, reduceIte, Nat.reduceAdd, Nat.reduceEqDiff, Nat.reduceLT, Nat.reduceLeDiff, wj, ← List.map_take, ← List.map_drop]
      · obtain rfl : n = i := by omega
        have g1 : decide ((n : Int) < (n : Int)) = false := by simp
        simp only [g1, ↓Both_true, ↓Both_false, wx, reduceCtorEq, reduceIte, Nat.reduceAdd, Nat.reduceEqDiff, Nat.reduceLT, Nat.reduceLeDiff, wj, ← List.map_take, ← List.map_drop]
        subst hB26
        simp only [SeqQ, ↓Both_true, ↓Both_false, wx, reduceCtorEq, reduceIte, Nat.reduceAdd, Nat.reduceEqDiff, Nat.reduceLT, Nat.reduceLeDiff, wj, ← List.map_take, ← List.map_drop]
        refine CallM.data haw rfl ?_
        simp only [deepD, AV.toL, ↓Both_true, ↓Both_false, wx, reduceCtorEq, reduceIte, Nat.reduceAdd, Nat.reduceEqDiff, Nat.reduceLT, Nat.reduceLeDiff, wj, ← List.map_take, ← List.map_drop]
end Go.Proofs.Lh
