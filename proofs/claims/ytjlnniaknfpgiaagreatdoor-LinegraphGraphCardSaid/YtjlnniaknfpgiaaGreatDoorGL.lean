/-
  Part GL of this claim's proof. Joined by merge.py from the texts of wip/tpl.
-/
import Derived.Test.YtjlnniaknfpgiaaGreatDoorGD
import Derived.Test.YtjlnniaknfpgiaaGreatDoorGK
set_option linter.unusedVariables false
set_option linter.unusedSimpArgs false
set_option linter.unnecessarySimpa false
namespace Go.Proofs.Lg

/-- Whether a line is in the component of another one. -/
def sameC (R : List (List Bool)) (i j : Nat) : Bool := decide (j = i) || (rel R i j && rel R j i)
theorem sameC_self (R : List (List Bool)) (i : Nat) : sameC R i i = true := by simp [sameC]
theorem sameC_symm (R : List (List Bool)) (i j : Nat) : sameC R i j = sameC R j i := by
  unfold sameC
  rw [Bool.and_comm]
  congr 1
  rw [Bool.eq_iff_iff]
  simp only [decide_eq_true_eq]
  exact ⟨fun h => h.symm, fun h => h.symm⟩
theorem sameC_trans {n : Nat} {R : List (List Bool)} (ht : TransR n R) {i j k : Nat} (hi : i < n) (hj : j < n) (hk : k < n) (h1 : sameC R i j = true) (h2 : sameC R j k = true) : sameC R i k = true := by
  unfold sameC at h1 h2 ⊢
  simp only [Bool.or_eq_true, decide_eq_true_eq, Bool.and_eq_true] at h1 h2 ⊢
  rcases h1 with rfl | ⟨a, b⟩
  · exact h2
  · rcases h2 with rfl | ⟨c, d⟩
    · exact .inr ⟨a, b⟩
    · exact .inr ⟨ht _ _ _ hi hj hk a c, ht _ _ _ hk hj hi d b⟩

/-- The component of a line, of those that come first the first m, and who is in one of them. -/
def compRow (R : List (List Bool)) (n i : Nat) : List Nat := (List.range n).filter (sameC R i)
def firstB (R : List (List Bool)) (i : Nat) : Bool := (List.range i).all fun j => !sameC R i j
def compsTo (R : List (List Bool)) (n m : Nat) : List (List Nat) := ((List.range m).filter (firstB R)).map (compRow R n)
def doneTo (R : List (List Bool)) (n m : Nat) : List Bool := (List.range n).map fun k => (List.range m).any fun j => sameC R j k

theorem compsTo_succ (R : List (List Bool)) (n m : Nat) : compsTo R n (m + 1) = if firstB R m = true then compsTo R n m ++ [compRow R n m] else compsTo R n m := by
  unfold compsTo
  rw [List.range_succ, List.filter_append, List.map_append]
  cases h : firstB R m <;> simp [h]
theorem compsTo_len (R : List (List Bool)) (n m : Nat) : (compsTo R n m).length ≤ m := by
  unfold compsTo
  rw [List.length_map]
  have := List.length_filter_le (firstB R) (List.range m)
  rwa [List.length_range] at this
theorem doneTo_len (R : List (List Bool)) (n m : Nat) : (doneTo R n m).length = n := by simp [doneTo]
theorem doneTo_get {R : List (List Bool)} {n m i : Nat} (hi : i < n) : (doneTo R n m)[i]? = some ((List.range m).any fun j => sameC R j i) := by
  unfold doneTo
  rw [List.getElem?_map, List.getElem?_range hi]; rfl
theorem done_first {R : List (List Bool)} (i : Nat) : ((List.range i).any fun j => sameC R j i) = !firstB R i := by
  unfold firstB
  rw [List.not_all_eq_any_not]
  congr 1
  funext j
  rw [Bool.not_not, sameC_symm]
theorem doneTo_zero (R : List (List Bool)) (n : Nat) : doneTo R n 0 = List.replicate n false := by
  rw [List.eq_replicate_iff]
  exact ⟨doneTo_len R n 0, fun b hb => by
    unfold doneTo at hb
    obtain ⟨x, _, rfl⟩ := List.mem_map.1 hb
    rfl⟩

/-- While the component of a line is being gathered. -/
def doneIn (R : List (List Bool)) (n i k : Nat) : List Bool := (List.range n).map fun x => ((List.range i).any fun j => sameC R j x) || (decide (x < k) && sameC R i x)
theorem doneIn_len (R : List (List Bool)) (n i k : Nat) : (doneIn R n i k).length = n := by simp [doneIn]
theorem doneIn_zero (R : List (List Bool)) (n i : Nat) : doneIn R n i 0 = doneTo R n i := by unfold doneIn doneTo; simp
theorem doneIn_end (R : List (List Bool)) (n i : Nat) : doneIn R n i n = doneTo R n (i + 1) := by
  unfold doneIn doneTo
  refine List.map_congr_left fun x hx => ?_
  have hx := List.mem_range.1 hx
  rw [List.range_succ, List.any_append]
  simp [hx]
theorem doneIn_succ {R : List (List Bool)} {n i k : Nat} (hk : k < n) : doneIn R n i (k + 1) = if sameC R i k = true then (doneIn R n i k).set k true else doneIn R n i k := by
  refine List.ext_getElem? fun x => ?_
  by_cases hx : x < n
  · have e : ∀ m, (doneIn R n i m)[x]? = some (((List.range i).any fun j => sameC R j x) || (decide (x < m) && sameC R i x)) := fun m => by
      unfold doneIn
      rw [List.getElem?_map, List.getElem?_range hx]; rfl
    cases hs : sameC R i k with
    | true =>
      rw [if_pos rfl, e]
      by_cases hxk : x = k
      · subst hxk
        rw [List.getElem?_set_self (by rw [doneIn_len]; exact hx), hs]
        simp
      · rw [List.getElem?_set_ne (Ne.symm hxk), e]
        have : decide (x < k + 1) = decide (x < k) := by rw [Bool.eq_iff_iff]; simp only [decide_eq_true_eq]; omega
        rw [this]
    | false =>
      rw [if_neg (by simp), e, e]
      by_cases hxk : x = k
      · subst hxk; rw [hs]; simp
      · have : decide (x < k + 1) = decide (x < k) := by rw [Bool.eq_iff_iff]; simp only [decide_eq_true_eq]; omega
        rw [this]
  · rw [List.getElem?_eq_none (by rw [doneIn_len]; omega)]
    split
    · rw [List.getElem?_eq_none (by rw [List.length_set, doneIn_len]; omega)]
    · rw [List.getElem?_eq_none (by rw [doneIn_len]; omega)]
theorem row_succ (R : List (List Bool)) (i k : Nat) : (List.range (k + 1)).filter (sameC R i) = if sameC R i k = true then (List.range k).filter (sameC R i) ++ [k] else (List.range k).filter (sameC R i) := by
  rw [List.range_succ, List.filter_append]
  cases h : sameC R i k <;> simp [h]
theorem row_len (R : List (List Bool)) (i k : Nat) : ((List.range k).filter (sameC R i)).length ≤ k := by
  have := List.length_filter_le (sameC R i) (List.range k)
  rwa [List.length_range] at this

/-- A line that is in an earlier component brings nothing new. -/
theorem doneTo_skip {n : Nat} {R : List (List Bool)} (ht : TransR n R) {i : Nat} (hi : i < n) (h : firstB R i = false) : doneTo R n (i + 1) = doneTo R n i := by
  unfold doneTo
  refine List.map_congr_left fun x hx => ?_
  have hx := List.mem_range.1 hx
  rw [List.range_succ, List.any_append]
  simp only [List.any_cons, List.any_nil, Bool.or_false]
  cases hs : sameC R i x with
  | false => rw [Bool.or_false]
  | true =>
    have h2 := done_first (R := R) i
    rw [h] at h2
    obtain ⟨j, hj, hji⟩ := List.any_eq_true.1 h2
    have hj' := List.mem_range.1 hj
    have hjx := sameC_trans ht (i := j) (j := i) (k := x) (by omega) hi hx hji hs
    rw [Bool.or_true]
    exact (List.any_eq_true.2 ⟨j, hj, hjx⟩).symm
theorem mem_compRow {R : List (List Bool)} {n i x : Nat} : x ∈ compRow R n i ↔ x < n ∧ sameC R i x = true := by unfold compRow; rw [List.mem_filter, List.mem_range]
theorem compRow_ne {R : List (List Bool)} {n i : Nat} (hi : i < n) : compRow R n i ≠ [] := List.ne_nil_of_mem (mem_compRow.2 ⟨hi, sameC_self R i⟩)

/-- The first of a component, as the reference finds it. -/
theorem first_ref (R : List (List Bool)) (n i : Nat) (hi : i < n) : (compRow R n i).all (fun j => decide (j ≥ i)) = firstB R i := by
  rw [Bool.eq_iff_iff]
  unfold firstB
  simp only [List.all_eq_true, decide_eq_true_eq, List.mem_range, Bool.not_eq_true']
  constructor
  · intro h j hj
    cases hs : sameC R i j with
    | false => rfl
    | true => have := h j (mem_compRow.2 ⟨by omega, hs⟩); omega
  · intro h j hj
    have h2 := mem_compRow.1 hj
    by_cases hlt : j < i
    · have := h j hlt; rw [h2.2] at this; cases this
    · omega
end Go.Proofs.Lg

namespace Go.Proofs.Lh
open Go Go.Bb Go.RowKit Go.Proofs.Lg
open Go.Ab (RD RDs D)

/-- A row that grows: none yet, or one of the call's own. -/
def GrowR (T sz : Nat) (s : List AObj) (v : AV) (rows : List (List Go.Ab.D)) : Prop :=
  (rows = [] ∧ v = .nil sz) ∨ (∃ id, v = .tsl id sz rows ∧ s[id]? = some (.row T sz rows.length))
theorem GrowR.nil (T sz : Nat) (s : List AObj) : GrowR T sz s (.nil sz) [] := .inl ⟨rfl, rfl⟩
theorem GrowR.deep {T sz : Nat} {s : List AObj} {v : AV} {rows : List (List Go.Ab.D)} (h : GrowR T sz s v rows) (s2 : List AObj) (n : Nat) : deepD s2 (n + 1) v = some (.sl sz rows) := by
  rcases h with ⟨rfl, rfl⟩ | ⟨id, rfl, _⟩ <;> rfl
theorem GrowR.keep {T sz : Nat} {s s' : List AObj} {v : AV} {rows : List (List Go.Ab.D)} (h : GrowR T sz s v rows) (hk : ∀ j n : Nat, s[j]? = some (AObj.row T sz n) → s'[j]? = some (AObj.row T sz n)) : GrowR T sz s' v rows := by
  rcases h with ⟨h1, h2⟩ | ⟨id, h2, h3⟩
  · exact .inl ⟨h1, h2⟩
  · exact .inr ⟨id, h2, hk _ _ h3⟩
theorem GrowR.app {T sz : Nat} {s : List AObj} {v : AV} {rows : List (List Go.Ab.D)} (h : GrowR T sz s v rows) (x : List AObj) : GrowR T sz (s ++ x) v rows :=
  h.keep fun j n hj => by rw [List.getElem?_append_left (List.getElem?_eq_some_iff.1 hj).1]; exact hj
theorem GrowR.set {T sz : Nat} {s : List AObj} {v : AV} {rows : List (List Go.Ab.D)} (h : GrowR T sz s v rows) {i e z : Nat} {cs : List AV} (hi : s[i]? = some (.vec e z cs)) (o : AObj) : GrowR T sz (s.set i o) v rows :=
  h.keep fun j n hj => by
    have : i ≠ j := fun e => by subst e; rw [hi] at hj; cases hj
    rw [List.getElem?_set_ne this]; exact hj
theorem app_grow {T sz bytes : Nat} {s : List AObj} {v y : AV} {rows ys : List (List Go.Ab.D)} (h : GrowR T sz s v rows) (hy : slA sz y = some ys) (hne : ys ≠ []) (hr : roomOk (rows.length + ys.length) bytes = true) :
    ∃ v' s', semApp s false T sz bytes y v = some (v', s') ∧ (∃ id, v' = .tsl id sz (rows ++ ys) ∧ s'[id]? = some (.row T sz (rows ++ ys).length)) ∧ ∀ (j : Nat) (o : AObj), s[j]? = some o → (∀ n : Nat, o ≠ AObj.row T sz n) → s'[j]? = some o := by
  rcases h with ⟨rfl, rfl⟩ | ⟨id, rfl, hid⟩
  · refine ⟨.tsl s.length sz ys, s ++ [.row T sz ys.length], ?_, ⟨s.length, by simp, by simp⟩, fun j o h _ => ?_⟩
    · have hr' : roomOk ys.length bytes = true := by simpa using hr
      simp [semApp, hy, hne, hr']
    · rw [List.getElem?_append_left (List.getElem?_eq_some_iff.1 h).1]; exact h
  · have hlt := (List.getElem?_eq_some_iff.1 hid).1
    refine ⟨.tsl id sz (rows ++ ys), s.set id (.row T sz (rows.length + ys.length)), ?_, ⟨id, rfl, by rw [List.getElem?_set_self hlt]; simp⟩, fun j o h hn => ?_⟩
    · simp [semApp, hy, hid, rowOk, hr]
    · by_cases e : j = id
      · subst e
        rw [hid] at h
        exact absurd (Option.some.inj h).symm (hn _)
      · rw [List.getElem?_set_ne (Ne.symm e)]; exact h

def srow (s : List Nat) : List D := [dNats s]
def dIntss (l : List (List Nat)) : D := .sl 1 (l.map srow)

theorem keyB (b : Bool) : AV.key false (.d (.sc (.bool b))) = some [.bool b] := rfl
theorem eqKb (b c : Bool) : eqKs [.b] [.bool b] [.bool c] = some (b == c) := by simp [eqKs]
set_option maxHeartbeats 1000000 in
theorem refSameBools_fn (R : List (List Bool)) (h1 : R.length ≤ 1000000) (h2 : ∀ r ∈ R, r.length ≤ 1000000) : AFn Tryz.prog 9 [dRows R, dRows R] (dBool true) := by
  refine AFn_of (F := k_refSameBools) (okb_refSameBools.trans (by kernel_rfl)) (by simp [k_refSameBools]) ?_
  have q0 : ((R.length : Int) != (R.length : Int)) = false := by simp
  simp only [k_refSameBools, dRows, q0, ↓Both_true, ↓Both_false, wx, reduceCtorEq, reduceIte, Nat.reduceAdd, Nat.reduceEqDiff, Nat.reduceLT, Nat.reduceLeDiff, wj, ← List.map_take, ← List.map_drop]
  refine LoopK.count (fun k => [(5, .d (.sc (.int .i64 k))), (0, .d (.sl 1 (R.map brow))), (1, .d (.sl 1 (R.map brow)))]) (fun _ => []) (fun _ => True) R.length (by simp [SubB, Go.Bb.look]) rfl trivial fun k hk _ => ?_
  by_cases hlt : k < R.length
  · have f1 : decide ((k : Int) < (R.length : Int)) = true := by simpa using hlt
    have f2 : R[k]? = some R[k] := List.getElem?_eq_getElem hlt
    have f3 : IntKind.i64.wrap ((k : Int) + 1) = ((k + 1 : Nat) : Int) := wrapN (by omega) (by omega)
    have hr := h2 R[k] (List.getElem_mem _)
    generalize R[k] = r at f2 hr
    have q1 : ((r.length : Int) != (r.length : Int)) = false := by simp
    simp only [f1, f2, q1, brow, ↓Both_true, ↓Both_false, wx, reduceCtorEq, reduceIte, Nat.reduceAdd, Nat.reduceEqDiff, Nat.reduceLT, Nat.reduceLeDiff, wj, ← List.map_take, ← List.map_drop]
    refine ⟨(ordF_coarse (by simp only [List.map_cons, List.map_nil, coarse_rd, coarse_wr]; rfl)), ?_⟩
    refine LoopK.count (fun j => [(6, .d (.sc (.int .i64 j))), (5, .d (.sc (.int .i64 k))), (0, .d (.sl 1 (R.map brow))), (1, .d (.sl 1 (R.map brow)))]) (fun _ => []) (fun _ => True) r.length (by simp [SubB, Go.Bb.look]) rfl trivial fun j hj _ => ?_
    by_cases hjt : j < r.length
    · have g1 : decide ((j : Int) < (r.length : Int)) = true := by simpa using hjt
      have g2 : r[j]? = some r[j] := List.getElem?_eq_getElem hjt
      have g3 : IntKind.i64.wrap ((j : Int) + 1) = ((j + 1 : Nat) : Int) := wrapN (by omega) (by omega)
      generalize r[j] = b at g2
      simp only [f2, g1, g2, g3, brow, hjt, keyB, eqKb, beq_self_eq_true, ↓Both_true, ↓Both_false, wx, reduceCtorEq, reduceIte, Nat.reduceAdd, Nat.reduceEqDiff, Nat.reduceLT, Nat.reduceLeDiff, wj, ← List.map_take, ← List.map_drop]
      exact (ordF_coarse (by simp only [List.map_cons, List.map_nil, coarse_rd, coarse_wr]; rfl))
    · have g1 : decide ((j : Int) < (r.length : Int)) = false := by simpa using hjt
      simp only [f2, g1, f3, hlt, brow, ↓Both_true, ↓Both_false, wx, reduceCtorEq, reduceIte, Nat.reduceAdd, Nat.reduceEqDiff, Nat.reduceLT, Nat.reduceLeDiff, wj, ← List.map_take, ← List.map_drop]
  · have f1 : decide ((k : Int) < (R.length : Int)) = false := by simpa using hlt
    simp only [f1, dBool, deepD, AV.toL, ↓Both_true, ↓Both_false, wx, reduceCtorEq, reduceIte, Nat.reduceAdd, Nat.reduceEqDiff, Nat.reduceLT, Nat.reduceLeDiff, wj, ← List.map_take, ← List.map_drop]
set_option maxHeartbeats 1000000 in
theorem refSameInts21_fn (R : List (List Nat)) (h1 : R.length ≤ 1000000) (h2 : ∀ r ∈ R, r.length ≤ 1000000) : AFn Tryz.prog 14 [dIntss R, dIntss R] (dBool true) := by
  refine AFn_of (F := k_refSameInts21) (okb_refSameInts21.trans (by kernel_rfl)) (by simp [k_refSameInts21]) ?_
  have q0 : ((R.length : Int) != (R.length : Int)) = false := by simp
  simp only [k_refSameInts21, dIntss, q0, ↓Both_true, ↓Both_false, wx, reduceCtorEq, reduceIte, Nat.reduceAdd, Nat.reduceEqDiff, Nat.reduceLT, Nat.reduceLeDiff, wj, ← List.map_take, ← List.map_drop]
  refine LoopK.count (fun k => [(5, .d (.sc (.int .i64 k))), (0, .d (.sl 1 (R.map srow))), (1, .d (.sl 1 (R.map srow)))]) (fun _ => []) (fun _ => True) R.length (by simp [SubB, Go.Bb.look]) rfl trivial fun k hk _ => ?_
  by_cases hlt : k < R.length
  · have f1 : decide ((k : Int) < (R.length : Int)) = true := by simpa using hlt
    have f2 : R[k]? = some R[k] := List.getElem?_eq_getElem hlt
    have f3 : IntKind.i64.wrap ((k : Int) + 1) = ((k + 1 : Nat) : Int) := wrapN (by omega) (by omega)
    have hr := h2 R[k] (List.getElem_mem _)
    generalize R[k] = r at f2 hr
    have q1 : ((r.length : Int) != (r.length : Int)) = false := by simp
    simp only [f1, f2, q1, srow, dNats, nrow, ↓Both_true, ↓Both_false, wx, reduceCtorEq, reduceIte, Nat.reduceAdd, Nat.reduceEqDiff, Nat.reduceLT, Nat.reduceLeDiff, wj, ← List.map_take, ← List.map_drop]
    refine ⟨(ordF_coarse (by simp only [List.map_cons, List.map_nil, coarse_rd, coarse_wr]; rfl)), ?_⟩
    refine LoopK.count (fun j => [(6, .d (.sc (.int .i64 j))), (5, .d (.sc (.int .i64 k))), (0, .d (.sl 1 (R.map srow))), (1, .d (.sl 1 (R.map srow)))]) (fun _ => []) (fun _ => True) r.length (by simp [SubB, Go.Bb.look]) rfl trivial fun j hj _ => ?_
    by_cases hjt : j < r.length
    · have g1 : decide ((j : Int) < (r.length : Int)) = true := by simpa using hjt
      have g2 : r[j]? = some r[j] := List.getElem?_eq_getElem hjt
      have g3 : IntKind.i64.wrap ((j : Int) + 1) = ((j + 1 : Nat) : Int) := wrapN (by omega) (by omega)
      generalize r[j] = b at g2
      simp only [f2, g1, g2, g3, srow, dNats, nrow, hjt, bne_self_eq_false, ↓Both_true, ↓Both_false, wx, reduceCtorEq, reduceIte, Nat.reduceAdd, Nat.reduceEqDiff, Nat.reduceLT, Nat.reduceLeDiff, wj, ← List.map_take, ← List.map_drop]
      exact (ordF_coarse (by simp only [List.map_cons, List.map_nil, coarse_rd, coarse_wr]; rfl))
    · have g1 : decide ((j : Int) < (r.length : Int)) = false := by simpa using hjt
      simp only [f2, g1, f3, hlt, srow, dNats, nrow, ↓Both_true, ↓Both_false, wx, reduceCtorEq, reduceIte, Nat.reduceAdd, Nat.reduceEqDiff, Nat.reduceLT, Nat.reduceLeDiff, wj, ← List.map_take, ← List.map_drop]
  · have f1 : decide ((k : Int) < (R.length : Int)) = false := by simpa using hlt
    simp only [f1, dBool, deepD, AV.toL, ↓Both_true, ↓Both_false, wx, reduceCtorEq, reduceIte, Nat.reduceAdd, Nat.reduceEqDiff, Nat.reduceLT, Nat.reduceLeDiff, wj, ← List.map_take, ← List.map_drop]
end Go.Proofs.Lh

namespace Go.Proofs.Lh
open Go Go.Bb Go.RowKit Go.Proofs.Lg
open Go.Ab (RD RDs D)

theorem refReaches_all {g : Gr} (hg : GrOk g) : AFn Tryz.prog 11 [dGraph g] (dRows g.reach) := by
  by_cases hc : g.check = 0
  · have := Go.Proofs.Lg.Reaches_fn hg hc
    rwa [war_reach hc] at this
  · have hck := refCheck_fn hg
    have hr : g.reach = [] := by unfold Gr.reach; rw [if_neg hc]
    have q1 : (g.check != 0) = true := by simpa using hc
    rw [hr]
    refine AFn_of (F := k_refReaches) (okb_refReaches.trans (by kernel_rfl)) (by simp [k_refReaches]) ?_
    simp only [k_refReaches]
    rw [wpK_seq]
    generalize hQ1 : SeqQ _ _ = Q1
    simp only [dGraph, ↓Both_true, ↓Both_false, wx, reduceCtorEq, reduceIte, Nat.reduceAdd, Nat.reduceEqDiff, Nat.reduceLT, Nat.reduceLeDiff, wj, ← List.map_take, ← List.map_drop]
    subst hQ1
    simp only [SeqQ]
    rw [wpK_seq]
    generalize hQ2 : SeqQ _ _ = Q2
    simp only [dGraph, ↓Both_true, ↓Both_false, wx, reduceCtorEq, reduceIte, Nat.reduceAdd, Nat.reduceEqDiff, Nat.reduceLT, Nat.reduceLeDiff, wj, ← List.map_take, ← List.map_drop]
    subst hQ2
    simp only [SeqQ]
    rw [wpK_seq]
    generalize hQ3 : SeqQ _ _ = Q3
    simp only [dGraph, Nat.le_refl, ↓Both_true, ↓Both_false, wx, reduceCtorEq, reduceIte, Nat.reduceAdd, Nat.reduceEqDiff, Nat.reduceLT, Nat.reduceLeDiff, wj, ← List.map_take, ← List.map_drop]
    refine CallM.data hck rfl ?_
    simp only [q1, ↓Both_true, ↓Both_false, wx, reduceCtorEq, reduceIte, Nat.reduceAdd, Nat.reduceEqDiff, Nat.reduceLT, Nat.reduceLeDiff, wj, ← List.map_take, ← List.map_drop]
    subst hQ3
    simp only [dRows, deepD, chunk, AV.toL, ↓Both_true, ↓Both_false, wx, reduceCtorEq, reduceIte, Nat.reduceAdd, Nat.reduceEqDiff, Nat.reduceLT, Nat.reduceLeDiff, wj, ← List.map_take, ← List.map_drop]
    try rfl

/-- What Before answers at all graphs and indices. -/
def aheadI (R : List (List Bool)) (i j : Int) : Bool := if 0 ≤ i ∧ i < R.length ∧ 0 ≤ j ∧ j < R.length then bef R i.toNat j.toNat else false

set_option maxHeartbeats 1000000 in
theorem refAhead_fn {n : Nat} {R : List (List Bool)} (hq : Sq n R) (i j : Int) : AFn Tryz.prog 31 [dRows R, .sc (.int .i64 i), .sc (.int .i64 j)] (dBool (aheadI R i j)) := by
  have hl := hq.1
  generalize hv : aheadI R i j = va
  refine AFn_of (F := k_refAhead) (okb_refAhead.trans (by kernel_rfl)) (by simp [k_refAhead]) ?_
  simp only [k_refAhead, dRows]
  rw [wpK_seq]
  generalize hQ1 : SeqQ _ _ = Q1
  simp only [↓Both_true, ↓Both_false, wx, reduceCtorEq, reduceIte, Nat.reduceAdd, Nat.reduceEqDiff, Nat.reduceLT, Nat.reduceLeDiff, wj, ← List.map_take, ← List.map_drop]
  subst hQ1
  simp only [SeqQ]
  rw [wpK_seq]
  generalize hQ2 : SeqQ _ _ = Q2
  by_cases c1 : 0 ≤ i
  case neg =>
    have f1 : decide (i ≥ 0) = false := by simpa using c1
    obtain rfl : va = false := hv.symm.trans (if_neg (fun h => c1 h.1))
    simp only [f1, undef, ↓Both_true, ↓Both_false, wx, reduceCtorEq, reduceIte, Nat.reduceAdd, Nat.reduceEqDiff, Nat.reduceLT, Nat.reduceLeDiff, wj, ← List.map_take, ← List.map_drop]
    subst hQ2
    simp only [SeqQ, dBool, deepD, AV.toL, ↓Both_true, ↓Both_false, wx, reduceCtorEq, reduceIte, Nat.reduceAdd, Nat.reduceEqDiff, Nat.reduceLT, Nat.reduceLeDiff, wj, ← List.map_take, ← List.map_drop]
  have f1 : decide (i ≥ 0) = true := by simpa using c1
  by_cases c2 : i < (R.length : Int)
  case neg =>
    have f2 : decide (i < (R.length : Int)) = false := by simpa using c2
    obtain rfl : va = false := hv.symm.trans (if_neg (fun h => c2 h.2.1))
    simp only [f1, f2, undef, ↓Both_true, ↓Both_false, wx, reduceCtorEq, reduceIte, Nat.reduceAdd, Nat.reduceEqDiff, Nat.reduceLT, Nat.reduceLeDiff, wj, ← List.map_take, ← List.map_drop]
    subst hQ2
    simp only [SeqQ, dBool, deepD, AV.toL, ↓Both_true, ↓Both_false, wx, reduceCtorEq, reduceIte, Nat.reduceAdd, Nat.reduceEqDiff, Nat.reduceLT, Nat.reduceLeDiff, wj, ← List.map_take, ← List.map_drop]
  have f2 : decide (i < (R.length : Int)) = true := by simpa using c2
  by_cases c3 : 0 ≤ j
  case neg =>
    have f3 : decide (j ≥ 0) = false := by simpa using c3
    obtain rfl : va = false := hv.symm.trans (if_neg (fun h => c3 h.2.2.1))
    simp only [f1, f2, f3, undef, ↓Both_true, ↓Both_false, wx, reduceCtorEq, reduceIte, Nat.reduceAdd, Nat.reduceEqDiff, Nat.reduceLT, Nat.reduceLeDiff, wj, ← List.map_take, ← List.map_drop]
    subst hQ2
    simp only [SeqQ, dBool, deepD, AV.toL, ↓Both_true, ↓Both_false, wx, reduceCtorEq, reduceIte, Nat.reduceAdd, Nat.reduceEqDiff, Nat.reduceLT, Nat.reduceLeDiff, wj, ← List.map_take, ← List.map_drop]
  have f3 : decide (j ≥ 0) = true := by simpa using c3
  by_cases c4 : j < (R.length : Int)
  case neg =>
    have f4 : decide (j < (R.length : Int)) = false := by simpa using c4
    obtain rfl : va = false := hv.symm.trans (if_neg (fun h => c4 h.2.2.2))
    simp only [f1, f2, f3, f4, undef, ↓Both_true, ↓Both_false, wx, reduceCtorEq, reduceIte, Nat.reduceAdd, Nat.reduceEqDiff, Nat.reduceLT, Nat.reduceLeDiff, wj, ← List.map_take, ← List.map_drop]
    subst hQ2
    simp only [SeqQ, dBool, deepD, AV.toL, ↓Both_true, ↓Both_false, wx, reduceCtorEq, reduceIte, Nat.reduceAdd, Nat.reduceEqDiff, Nat.reduceLT, Nat.reduceLeDiff, wj, ← List.map_take, ← List.map_drop]
  have f4 : decide (j < (R.length : Int)) = true := by simpa using c4
  obtain rfl : va = bef R i.toNat j.toNat := hv.symm.trans (if_pos ⟨c1, c2, c3, c4⟩)
  obtain ⟨a, rfl⟩ := Int.eq_ofNat_of_zero_le c1
  obtain ⟨b, rfl⟩ := Int.eq_ofNat_of_zero_le c3
  obtain ⟨r1, u1, u2⟩ := rel_get hq (i := a) (j := b) (by omega) (by omega)
  obtain ⟨r2, v1, v2⟩ := rel_get hq (i := b) (j := a) (by omega) (by omega)
  cases h5 : rel R a b with
  | false =>
    rw [h5] at u2
    simp only [f1, f2, f3, f4, u1, u2, brow, undef, ↓Both_true, ↓Both_false, wx, reduceCtorEq, reduceIte, Nat.reduceAdd, Nat.reduceEqDiff, Nat.reduceLT, Nat.reduceLeDiff, wj, ← List.map_take, ← List.map_drop]
    subst hQ2
    simp only [SeqQ, dBool, deepD, AV.toL, bef, h5, ↓Both_true, ↓Both_false, wx, reduceCtorEq, reduceIte, Nat.reduceAdd, Nat.reduceEqDiff, Nat.reduceLT, Nat.reduceLeDiff, wj, ← List.map_take, ← List.map_drop]
  | true =>
    rw [h5] at u2
    simp only [f1, f2, f3, f4, u1, u2, v1, v2, brow, undef, ↓Both_true, ↓Both_false, wx, reduceCtorEq, reduceIte, Nat.reduceAdd, Nat.reduceEqDiff, Nat.reduceLT, Nat.reduceLeDiff, wj, ← List.map_take, ← List.map_drop]
    subst hQ2
    simp only [SeqQ, dBool, deepD, AV.toL, bef, h5, ↓Both_true, ↓Both_false, wx, reduceCtorEq, reduceIte, Nat.reduceAdd, Nat.reduceEqDiff, Nat.reduceLT, Nat.reduceLeDiff, wj, ← List.map_take, ← List.map_drop]

theorem refBefore21_fn {g : Gr} (hg : GrOk g) (i j : Int) : AFn Tryz.prog 13 [dGraph g, .sc (.int .i64 i), .sc (.int .i64 j)] (dBool (aheadI g.reach i j)) := by
  refine AFn_of (F := k_refBefore21) (okb_refBefore21.trans (by kernel_rfl)) (by simp [k_refBefore21]) ?_
  simp only [k_refBefore21, dGraph, Nat.le_refl, ↓Both_true, ↓Both_false, wx, reduceCtorEq, reduceIte, Nat.reduceAdd, Nat.reduceEqDiff, Nat.reduceLT, Nat.reduceLeDiff, wj, ← List.map_take, ← List.map_drop]
  refine CallM.data (refReaches_all hg) rfl ?_
  simp only [↓Both_true, ↓Both_false, wx, reduceCtorEq, reduceIte, Nat.reduceAdd, Nat.reduceEqDiff, Nat.reduceLT, Nat.reduceLeDiff, wj, ← List.map_take, ← List.map_drop]
  refine CallM.data (refAhead_fn g.sq i j) rfl ?_
  simp only [dBool, deepD, AV.toL, ↓Both_true, ↓Both_false, wx, reduceCtorEq, reduceIte, Nat.reduceAdd, Nat.reduceEqDiff, Nat.reduceLT, Nat.reduceLeDiff, wj, ← List.map_take, ← List.map_drop]

set_option maxRecDepth 100000 in
theorem Before_bad (vl ve : Value) (g : Gr) (i j : Nat) (w : World) (hg : GrAt w vl ve g) (hck : g.check ≠ 0) (hi : i < g.lines.length) (hj : j < g.lines.length) :
    Calls Tryz.prog 12 #[.agg #[vl, ve], .int .i64 i, .int .i64 j] w fun e w' => e = .returned (.bool false) ∧ Below w.heap.size w w' := by
  have h2 : (g.check != 0) = true := by simpa using hck
  have h1 : (g.check == 0) = false := by simpa using hck
  have HG := Lib.hid hg
  have hfew := hg.few
  obtain ⟨al, cl, hvl⟩ : ∃ a c, vl = .slice a g.lines.length c := by obtain ⟨a, c, h, _⟩ := hg.lines; exact ⟨a, c, by simpa using h⟩
  subst hvl
  clear hck hg
  have d1 : decide ((i : Int) < 0) = false := by simp
  have d2 : decide ((j : Int) < 0) = false := by simp
  have d3 : decide ((g.lines.length : Int) ≤ (i : Int)) = false := by simp; omega
  have d4 : decide ((g.lines.length : Int) ≤ (j : Int)) = false := by simp; omega
  have d5 : decide (g.lines.length ≤ i) = false := by simp; omega
  have d6 : decide (g.lines.length ≤ j) = false := by simp; omega
  go_enter Tryz.func12, Tryz.ntmps12
  go_wp2_with fail
  refine (Check_any _ ve g _ (HG.out.below ((Below.refl _ _).alloc (Nat.le_refl _) _))).mono ?_
  rintro e w1 ⟨rfl, hb1⟩
  have hbw1 : Below w.heap.size w w1 := ((Below.refl _ _).alloc (Nat.le_refl _) _).trans (hb1.mono (by simp))
  have HB := Lib.hid hbw1
  clear hb1 hbw1
  go_wp2
  go_ret
  exact ⟨rfl, HB.out⟩

theorem Before_all {g : Gr} (hg : GrOk g) (i j : Int) : AFn Tryz.prog 12 [dGraph g, .sc (.int .i64 i), .sc (.int .i64 j)] (dBool (aheadI g.reach i j)) := by
  by_cases hck : g.check = 0
  · have hrl : g.reach.length = g.lines.length := by unfold Gr.reach; rw [if_pos hck]; simp
    have h := Before_fn hg hck i j
    have e : beforeI g i j = aheadI g.reach i j := by
      unfold beforeI aheadI
      rw [hrl]
      by_cases hh : 0 ≤ i ∧ 0 ≤ j ∧ i < g.lines.length ∧ j < g.lines.length
      · rw [if_pos hh, if_pos ⟨hh.1, hh.2.2.1, hh.2.1, hh.2.2.2⟩, Gr.before_bef hck (by omega) (by omega)]
      · rw [if_neg hh, if_neg fun h => hh ⟨h.1, h.2.2.1, h.2.1, h.2.2.2⟩]
    rwa [e] at h
  · have hr : g.reach = [] := by unfold Gr.reach; rw [if_neg hck]
    have e : aheadI g.reach i j = false := by rw [hr]; exact if_neg fun h => by have h1 := h.1; have h2 := h.2.1; simp at h2; omega
    rw [e]
    exact graph_fnx Tryz.func12 (by rfl) (by rfl) hg [.int .i64 i, .int .i64 j] fun vl ve w hat => by
      by_cases h : 0 ≤ i ∧ 0 ≤ j ∧ i < g.lines.length ∧ j < g.lines.length
      · have e1 : i = (i.toNat : Int) := by omega
        have e2 : j = (j.toNat : Int) := by omega
        have := Before_bad vl ve g i.toNat j.toNat w hat hck (by omega) (by omega)
        rw [← e1, ← e2] at this
        exact this.mono fun e w' ⟨he, hb⟩ => ⟨_, he, fun _ => .sc _, hb⟩
      · exact (Before_out vl ve g i j w hat (by omega)).mono fun e w' ⟨he, hb⟩ => ⟨_, he, fun _ => .sc _, hb⟩
end Go.Proofs.Lh

namespace Go.Proofs.Lh
open Go Go.Bb Go.RowKit Go.Proofs.Lg
open Go.Ab (RD RDs D)

theorem natEq (a b : Nat) : ((a : Int) == (b : Int)) = decide (a = b) := by
  rw [Bool.eq_iff_iff]; simp only [beq_iff_eq, decide_eq_true_eq]; omega

set_option maxRecDepth 10000 in
set_option maxHeartbeats 4000000 in
theorem linComponents_fn {g : Gr} (hg : GrOk g) : AFn Tryz.prog 15 [dGraph g] (dIntss (compsTo g.reach g.dim g.dim)) := by
  have hq := g.sq
  have ht := g.transR
  have hn : g.dim ≤ 1000000 := Nat.le_trans g.dim_le hg.few
  have hR := linReaches_fn hg
  generalize g.reach = R at *
  generalize g.dim = n at *
  have hRl := hq.1
  refine AFn_of (F := k_linComponents) (okb_linComponents.trans (by kernel_rfl)) (by simp [k_linComponents]) ?_
  simp only [k_linComponents]
  rw [wpK_seq]
  generalize hQ1 : SeqQ _ _ = Q1
  simp only [dGraph, ↓Both_true, ↓Both_false, wx, reduceCtorEq, reduceIte, Nat.reduceAdd, Nat.reduceEqDiff, Nat.reduceLT, Nat.reduceLeDiff, wj, ← List.map_take, ← List.map_drop]
  subst hQ1
  simp only [SeqQ]
  rw [wpK_seq]
  generalize hQ2 : SeqQ _ _ = Q2
  simp only [dGraph, Nat.le_refl, ↓Both_true, ↓Both_false, wx, reduceCtorEq, reduceIte, Nat.reduceAdd, Nat.reduceEqDiff, Nat.reduceLT, Nat.reduceLeDiff, wj, ← List.map_take, ← List.map_drop]
  refine CallM.data hR rfl ?_
  simp only [dRows, ↓Both_true, ↓Both_false, wx, reduceCtorEq, reduceIte, Nat.reduceAdd, Nat.reduceEqDiff, Nat.reduceLT, Nat.reduceLeDiff, wj, ← List.map_take, ← List.map_drop]
  subst hQ2
  simp only [SeqQ]
  rw [wpK_seq]
  generalize hQ3 : SeqQ _ _ = Q3
  have n1 : (n : Int) * ((1 : Nat) : Int) ≤ 140737488355328 := by omega
  have n2 : (n : Int) ≤ 140737488355328 := by omega
  simp only [hRl, n1, n2, Int.le_refl, ↓Both_true, ↓Both_false, wx, reduceCtorEq, reduceIte, Nat.reduceAdd, Nat.reduceEqDiff, Nat.reduceLT, Nat.reduceLeDiff, wj, ← List.map_take, ← List.map_drop]
  subst hQ3
  simp only [SeqQ]
  rw [wpK_seq]
  generalize hQ4 : SeqQ _ _ = Q4
  simp only [↓Both_true, ↓Both_false, wx, reduceCtorEq, reduceIte, Nat.reduceAdd, Nat.reduceEqDiff, Nat.reduceLT, Nat.reduceLeDiff, wj, ← List.map_take, ← List.map_drop]
  subst hQ4
  simp only [SeqQ]
  rw [wpK_seq]
  generalize hQ5 : SeqQ _ _ = Q5
  simp only [hRl, ↓Both_true, ↓Both_false, wx, reduceCtorEq, reduceIte, Nat.reduceAdd, Nat.reduceEqDiff, Nat.reduceLT, Nat.reduceLeDiff, wj, ← List.map_take, ← List.map_drop]
  have hz : (List.replicate n (AV.d (D.sc (Value.bool false)))) = (doneTo R n 0).map fun b => AV.d (D.sc (Value.bool b)) := by rw [doneTo_zero, List.map_replicate]
  rw [hz]
  generalize AObj.cells [AV.d (dLines g.lines), AV.d (dEdges g.edges)] = A
  refine LoopK.at (fun b : Nat × AV × List AObj => [(16, .d (.sc (.int .i64 b.1))), (15, .d (.sc (.int .i64 n))), (3, .d (.sl 1 (R.map brow))), (4, .vec 1 n 1), (5, b.2.1)]) (fun b => b.2.2)
    (fun m b => m + b.1 = n ∧ b.2.2[1]? = some (rblk (doneTo R n b.1)) ∧ GrowR 37 1 b.2.2 b.2.1 ((compsTo R n b.1).map srow)) n (0, .nil 1, _) (by simp [SubB, Go.Bb.look]) rfl ⟨rfl, rfl, GrowR.nil 37 1 _⟩ ?_
  clear hz
  rintro mm ⟨i, v, s⟩ ⟨hm, hd, hv⟩
  dsimp only at hm hd hv ⊢
  by_cases hlt : i < n
  · have h1 : decide ((i : Int) < (n : Int)) = true := by simpa using hlt
    have h3 : IntKind.i64.wrap ((i : Int) + 1) = ((i + 1 : Nat) : Int) := wrapN (by omega) (by omega)
    have hdi := doneTo_get (R := R) (m := i) hlt
    rw [done_first] at hdi
    have hd' : s[1]? = some (.vec 4 1 ((doneTo R n i).map fun b => .d (.sc (.bool b)))) := hd
    have hdl := doneTo_len R n i
    rw [wpK_seq]
    generalize hB1 : SeqQ _ _ = B1
    simp only [h1, ↓Both_true, ↓Both_false, wx, reduceCtorEq, reduceIte, Nat.reduceAdd, Nat.reduceEqDiff, Nat.reduceLT, Nat.reduceLeDiff, wj, ← List.map_take, ← List.map_drop]
    subst hB1
    simp only [SeqQ]
    rw [wpK_seq]
    generalize hB2 : SeqQ _ _ = B2
    simp only [↓Both_true, ↓Both_false, wx, reduceCtorEq, reduceIte, Nat.reduceAdd, Nat.reduceEqDiff, Nat.reduceLT, Nat.reduceLeDiff, wj, ← List.map_take, ← List.map_drop]
    subst hB2
    simp only [SeqQ]
    rw [wpK_seq]
    generalize hB3 : SeqQ _ _ = B3
    rw [wpK_block]
    generalize hB4 : BlockQ _ _ = B4
    rw [wpK_seq]
    generalize hB5 : SeqQ _ _ = B5
    simp only [↓Both_true, ↓Both_false, wx, reduceCtorEq, reduceIte, Nat.reduceAdd, Nat.reduceEqDiff, Nat.reduceLT, Nat.reduceLeDiff, wj, ← List.map_take, ← List.map_drop]
    subst hB5
    simp only [SeqQ]
    rw [wpK_seq]
    generalize hB6 : SeqQ _ _ = B6
    rw [wpK_seq]
    generalize hB7 : SeqQ _ _ = B7
    simp only [hd', hdl, hlt, hdi, Nat.mul_one, ↓Both_true, ↓Both_false, wx, reduceCtorEq, reduceIte, Nat.reduceAdd, Nat.reduceEqDiff, Nat.reduceLT, Nat.reduceLeDiff, wj, ← List.map_take, ← List.map_drop]
    subst hB7
    simp only [SeqQ]
    cases hf : firstB R i with
    | false =>
      simp only [hf, ↓Both_true, ↓Both_false, wx, reduceCtorEq, reduceIte, Nat.reduceAdd, Nat.reduceEqDiff, Nat.reduceLT, Nat.reduceLeDiff, wj, ← List.map_take, ← List.map_drop]
      subst hB6
      simp only [SeqQ]
      subst hB4
      simp only [BlockQ, ↓Both_true, ↓Both_false, wx, reduceCtorEq, reduceIte, Nat.reduceAdd, Nat.reduceEqDiff, Nat.reduceLT, Nat.reduceLeDiff, wj, ← List.map_take, ← List.map_drop]
      subst hB3
      simp only [SeqQ, h3, ↓Both_true, ↓Both_false, wx, reduceCtorEq, reduceIte, Nat.reduceAdd, Nat.reduceEqDiff, Nat.reduceLT, Nat.reduceLeDiff, wj, ← List.map_take, ← List.map_drop]
      refine ⟨mm - 1, (i + 1, v, s), by omega, ⟨rfl, rfl⟩, rfl, by dsimp only; omega, ?_, ?_⟩
      · dsimp only
        rw [doneTo_skip ht hlt hf]; exact hd
      · dsimp only
        rw [compsTo_succ, if_neg (by rw [hf]; decide)]; exact hv
    | true =>
      simp only [hf, ↓Both_true, ↓Both_false, wx, reduceCtorEq, reduceIte, Nat.reduceAdd, Nat.reduceEqDiff, Nat.reduceLT, Nat.reduceLeDiff, wj, ← List.map_take, ← List.map_drop]
      subst hB6
      simp only [SeqQ]
      rw [wpK_seq]
      generalize hB8 : SeqQ _ _ = B8
      simp only [↓Both_true, ↓Both_false, wx, reduceCtorEq, reduceIte, Nat.reduceAdd, Nat.reduceEqDiff, Nat.reduceLT, Nat.reduceLeDiff, wj, ← List.map_take, ← List.map_drop]
      subst hB8
      simp only [SeqQ]
      rw [wpK_seq]
      generalize hB13 : SeqQ _ _ = B13
      rw [wpK_seq]
      generalize hB14 : SeqQ _ _ = B14
      simp only [hRl, ↓Both_true, ↓Both_false, wx, reduceCtorEq, reduceIte, Nat.reduceAdd, Nat.reduceEqDiff, Nat.reduceLT, Nat.reduceLeDiff, wj, ← List.map_take, ← List.map_drop]
      subst hB14
      simp only [SeqQ]
      simp only [↓Both_true, ↓Both_false, wx, reduceCtorEq, reduceIte, Nat.reduceAdd, Nat.reduceEqDiff, Nat.reduceLT, Nat.reduceLeDiff, wj, ← List.map_take, ← List.map_drop]
      refine LoopK.at (fun b : Nat × AV × List AObj => [(25, .d (.sc (.int .i64 b.1))), (24, .d (.sc (.int .i64 n))), (6, .d (.sc (.int .i64 i))), (16, .d (.sc (.int .i64 i))), (15, .d (.sc (.int .i64 n))), (3, .d (.sl 1 (R.map brow))), (4, .vec 1 n 1), (5, v), (7, b.2.1)]) (fun b => b.2.2)
        (fun m b => m + b.1 = n ∧ b.2.2[1]? = some (rblk (doneIn R n i b.1)) ∧ GrowR 37 1 b.2.2 v ((compsTo R n i).map srow) ∧ GrowR 3 1 b.2.2 b.2.1 (((List.range b.1).filter (sameC R i)).map nrow)) n (0, .nil 1, s) (by simp [SubB, Go.Bb.look]) rfl ⟨rfl, by dsimp only; rw [doneIn_zero]; exact hd, hv, GrowR.nil 3 1 _⟩ ?_
      clear hv hd hd' hdi hdl s
      rintro m2 ⟨k, u, s⟩ ⟨hm2, hd2, hv2, hu⟩
      dsimp only at hm2 hd2 hv2 hu ⊢
      by_cases hkn : k < n
      · have hk1 : decide ((k : Int) < (n : Int)) = true := by simpa using hkn
        have hk3 : IntKind.i64.wrap ((k : Int) + 1) = ((k + 1 : Nat) : Int) := wrapN (by omega) (by omega)
        have hkn1 : k + 1 ≤ n := hkn
        have hd' : s[1]? = some (.vec 4 1 ((doneIn R n i k).map fun b => .d (.sc (.bool b)))) := hd2
        have hs1 : 1 < s.length := (List.getElem?_eq_some_iff.1 hd2).1
        have hdl' := doneIn_len R n i k
        have hrl := row_len R i k
        have hroom : roomOk ((((List.range k).filter (sameC R i)).map nrow).length + ([nrow k] : List (List D)).length) 8 = true := by simp only [roomOk, decide_eq_true_eq, List.length_map, List.length_cons, List.length_nil]; omega
        have e1 := natEq k i
        obtain ⟨ri, u1, u2⟩ := rel_get hq hlt hkn
        obtain ⟨rk, w1, w2⟩ := rel_get hq hkn hlt
        have hsame : sameC R i k = (decide (k = i) || (rel R i k && rel R k i)) := rfl
        generalize rel R i k = x at u2 hsame
        generalize rel R k i = y at w2 hsame
        generalize decide (k = i) = z at e1 hsame
        rw [wpK_seq]
        generalize hB15 : SeqQ _ _ = B15
        simp only [hk1, ↓Both_true, ↓Both_false, wx, reduceCtorEq, reduceIte, Nat.reduceAdd, Nat.reduceEqDiff, Nat.reduceLT, Nat.reduceLeDiff, wj, ← List.map_take, ← List.map_drop]
        subst hB15
        simp only [SeqQ]
        rw [wpK_seq]
        generalize hB16 : SeqQ _ _ = B16
        simp only [↓Both_true, ↓Both_false, wx, reduceCtorEq, reduceIte, Nat.reduceAdd, Nat.reduceEqDiff, Nat.reduceLT, Nat.reduceLeDiff, wj, ← List.map_take, ← List.map_drop]
        subst hB16
        simp only [SeqQ]
        rw [wpK_seq]
        generalize hB9 : SeqQ _ _ = B9
        rw [wpK_block]
        generalize hB10 : BlockQ _ _ = B10
        rw [wpK_seq]
        generalize hB11 : SeqQ _ _ = B11
        simp only [↓Both_true, ↓Both_false, wx, reduceCtorEq, reduceIte, Nat.reduceAdd, Nat.reduceEqDiff, Nat.reduceLT, Nat.reduceLeDiff, wj, ← List.map_take, ← List.map_drop]
        subst hB11
        simp only [SeqQ]
        cases z with
        | true =>
          rw [wpK_seq]
          generalize hB12 : SeqQ _ _ = B12
          simp only [e1, u1, u2, w1, w2, brow, undef, ↓Both_true, ↓Both_false, wx, reduceCtorEq, reduceIte, Nat.reduceAdd, Nat.reduceEqDiff, Nat.reduceLT, Nat.reduceLeDiff, wj, ← List.map_take, ← List.map_drop]
          have hsm : sameC R i k = true := by rw [hsame]; simp
          subst hB12
          simp only [SeqQ]
          obtain ⟨u', s2, a1, ⟨id, rfl, a2⟩, a3⟩ := app_grow (T := 3) (sz := 1) (bytes := 8) (s := s.set 1 (rblk ((doneIn R n i k).set k true)) ++ [.row 3 1 1]) (y := .tsl s.length 1 [[.sc (.int .i64 (k : Int))]]) (ys := [nrow k]) ((hu.set hd' _).app _) rfl (by simp) hroom
          have hput := rblk_set' (doneIn R n i k) k true (by rw [doneIn_len]; exact hkn)
          have b1 : s2[1]? = some (rblk ((doneIn R n i k).set k true)) := a3 1 _ (by rw [List.getElem?_append_left (by rw [List.length_set]; exact hs1), List.getElem?_set_self hs1]) (fun m h => by cases h)
          have b2 : GrowR 37 1 s2 v ((compsTo R n i).map srow) := ((hv2.set hd' _).app _).keep fun j m hj => a3 j _ hj (fun m h => by cases h)
          rw [hput] at a1
          simp only [hd', hdl', hk1, hkn, hkn1, a1, Nat.mul_one, List.length_set, ↓Both_true, ↓Both_false, wx, reduceCtorEq, reduceIte, Nat.reduceAdd, Nat.reduceEqDiff, Nat.reduceLT, Nat.reduceLeDiff, wj, ← List.map_take, ← List.map_drop]
          subst hB10
          simp only [BlockQ]
          subst hB9
          simp only [SeqQ, hk3, ↓Both_true, ↓Both_false, wx, reduceCtorEq, reduceIte, Nat.reduceAdd, Nat.reduceEqDiff, Nat.reduceLT, Nat.reduceLeDiff, wj, ← List.map_take, ← List.map_drop]
          refine ⟨m2 - 1, (k + 1, _, s2), by omega, ⟨rfl, rfl⟩, rfl, by dsimp only; omega, ?_, b2, ?_⟩
          · dsimp only
            rw [doneIn_succ hkn, if_pos hsm]; exact b1
          · dsimp only
            rw [row_succ, if_pos hsm, List.map_append]; exact .inr ⟨id, rfl, a2⟩
        | false =>
          cases x with
          | false =>
            rw [wpK_seq]
            generalize hB12 : SeqQ _ _ = B12
            simp only [e1, u1, u2, w1, w2, brow, undef, ↓Both_true, ↓Both_false, wx, reduceCtorEq, reduceIte, Nat.reduceAdd, Nat.reduceEqDiff, Nat.reduceLT, Nat.reduceLeDiff, wj, ← List.map_take, ← List.map_drop]
            have hsm : sameC R i k = false := by rw [hsame]; simp
            subst hB12
            simp only [SeqQ, ↓Both_true, ↓Both_false, wx, reduceCtorEq, reduceIte, Nat.reduceAdd, Nat.reduceEqDiff, Nat.reduceLT, Nat.reduceLeDiff, wj, ← List.map_take, ← List.map_drop]
            subst hB10
            simp only [BlockQ]
            subst hB9
            simp only [SeqQ, hk3, ↓Both_true, ↓Both_false, wx, reduceCtorEq, reduceIte, Nat.reduceAdd, Nat.reduceEqDiff, Nat.reduceLT, Nat.reduceLeDiff, wj, ← List.map_take, ← List.map_drop]
            refine ⟨m2 - 1, (k + 1, u, s), by omega, ⟨rfl, rfl⟩, rfl, by dsimp only; omega, ?_, hv2, ?_⟩
            · dsimp only
              rw [doneIn_succ hkn, if_neg (by rw [hsm]; decide)]; exact hd2
            · dsimp only
              rw [row_succ, if_neg (by rw [hsm]; decide)]; exact hu
          | true =>
            cases y with
            | false =>
              rw [wpK_seq]
              generalize hB12 : SeqQ _ _ = B12
              simp only [e1, u1, u2, w1, w2, brow, undef, ↓Both_true, ↓Both_false, wx, reduceCtorEq, reduceIte, Nat.reduceAdd, Nat.reduceEqDiff, Nat.reduceLT, Nat.reduceLeDiff, wj, ← List.map_take, ← List.map_drop]
              have hsm : sameC R i k = false := by rw [hsame]; simp
              subst hB12
              simp only [SeqQ, ↓Both_true, ↓Both_false, wx, reduceCtorEq, reduceIte, Nat.reduceAdd, Nat.reduceEqDiff, Nat.reduceLT, Nat.reduceLeDiff, wj, ← List.map_take, ← List.map_drop]
              subst hB10
              simp only [BlockQ]
              subst hB9
              simp only [SeqQ, hk3, ↓Both_true, ↓Both_false, wx, reduceCtorEq, reduceIte, Nat.reduceAdd, Nat.reduceEqDiff, Nat.reduceLT, Nat.reduceLeDiff, wj, ← List.map_take, ← List.map_drop]
              refine ⟨m2 - 1, (k + 1, u, s), by omega, ⟨rfl, rfl⟩, rfl, by dsimp only; omega, ?_, hv2, ?_⟩
              · dsimp only
                rw [doneIn_succ hkn, if_neg (by rw [hsm]; decide)]; exact hd2
              · dsimp only
                rw [row_succ, if_neg (by rw [hsm]; decide)]; exact hu
            | true =>
              rw [wpK_seq]
              generalize hB12 : SeqQ _ _ = B12
              simp only [e1, u1, u2, w1, w2, brow, undef, ↓Both_true, ↓Both_false, wx, reduceCtorEq, reduceIte, Nat.reduceAdd, Nat.reduceEqDiff, Nat.reduceLT, Nat.reduceLeDiff, wj, ← List.map_take, ← List.map_drop]
              have hsm : sameC R i k = true := by rw [hsame]; simp
              subst hB12
              simp only [SeqQ]
              obtain ⟨u', s2, a1, ⟨id, rfl, a2⟩, a3⟩ := app_grow (T := 3) (sz := 1) (bytes := 8) (s := s.set 1 (rblk ((doneIn R n i k).set k true)) ++ [.row 3 1 1]) (y := .tsl s.length 1 [[.sc (.int .i64 (k : Int))]]) (ys := [nrow k]) ((hu.set hd' _).app _) rfl (by simp) hroom
              have hput := rblk_set' (doneIn R n i k) k true (by rw [doneIn_len]; exact hkn)
              have b1 : s2[1]? = some (rblk ((doneIn R n i k).set k true)) := a3 1 _ (by rw [List.getElem?_append_left (by rw [List.length_set]; exact hs1), List.getElem?_set_self hs1]) (fun m h => by cases h)
              have b2 : GrowR 37 1 s2 v ((compsTo R n i).map srow) := ((hv2.set hd' _).app _).keep fun j m hj => a3 j _ hj (fun m h => by cases h)
              rw [hput] at a1
              simp only [hd', hdl', hk1, hkn, hkn1, a1, Nat.mul_one, List.length_set, ↓Both_true, ↓Both_false, wx, reduceCtorEq, reduceIte, Nat.reduceAdd, Nat.reduceEqDiff, Nat.reduceLT, Nat.reduceLeDiff, wj, ← List.map_take, ← List.map_drop]
              subst hB10
              simp only [BlockQ]
              subst hB9
              simp only [SeqQ, hk3, ↓Both_true, ↓Both_false, wx, reduceCtorEq, reduceIte, Nat.reduceAdd, Nat.reduceEqDiff, Nat.reduceLT, Nat.reduceLeDiff, wj, ← List.map_take, ← List.map_drop]
              refine ⟨m2 - 1, (k + 1, _, s2), by omega, ⟨rfl, rfl⟩, rfl, by dsimp only; omega, ?_, b2, ?_⟩
              · dsimp only
                rw [doneIn_succ hkn, if_pos hsm]; exact b1
              · dsimp only
                rw [row_succ, if_pos hsm, List.map_append]; exact .inr ⟨id, rfl, a2⟩
      · obtain rfl : n = k := by omega
        have hk1 : decide ((n : Int) < (n : Int)) = false := by simp
        simp only [hk1, ↓Both_true, ↓Both_false, wx, reduceCtorEq, reduceIte, Nat.reduceAdd, Nat.reduceEqDiff, Nat.reduceLT, Nat.reduceLeDiff, wj, ← List.map_take, ← List.map_drop]
        have hcl := compsTo_len R n i
        have hroom : roomOk (((compsTo R n i).map srow).length + ([srow (compRow R n i)] : List (List D)).length) 24 = true := by simp only [roomOk, decide_eq_true_eq, List.length_map, List.length_cons, List.length_nil]; omega
        have hne := compRow_ne (R := R) hlt
        have hcr : (List.range n).filter (sameC R i) = compRow R n i := rfl
        rw [hcr] at hu
        rcases hu with ⟨h0, _⟩ | ⟨id, rfl, hid⟩
        · exact absurd (List.map_eq_nil_iff.1 h0) hne
        obtain ⟨v', s2, a1, ⟨id2, rfl, a2⟩, a3⟩ := app_grow (T := 37) (sz := 1) (bytes := 24) (s := s ++ [.row 37 1 1]) (y := .tsl s.length 1 [[.sl 1 ((compRow R n i).map nrow)]]) (ys := [srow (compRow R n i)]) (hv2.app _) rfl (by simp) hroom
        have hs1 : 1 < s.length := (List.getElem?_eq_some_iff.1 hd2).1
        have b1 : s2[1]? = some (rblk (doneTo R n (i + 1))) := a3 1 _ (by rw [List.getElem?_append_left hs1, hd2, doneIn_end]) (fun m h => by cases h)
        subst hB13
        simp only [SeqQ, a1, ↓Both_true, ↓Both_false, wx, reduceCtorEq, reduceIte, Nat.reduceAdd, Nat.reduceEqDiff, Nat.reduceLT, Nat.reduceLeDiff, wj, ← List.map_take, ← List.map_drop]
        subst hB4
        simp only [BlockQ]
        subst hB3
        simp only [SeqQ, h3, ↓Both_true, ↓Both_false, wx, reduceCtorEq, reduceIte, Nat.reduceAdd, Nat.reduceEqDiff, Nat.reduceLT, Nat.reduceLeDiff, wj, ← List.map_take, ← List.map_drop]
        refine ⟨mm - 1, (i + 1, _, s2), by omega, ⟨rfl, rfl⟩, rfl, by dsimp only; omega, b1, ?_⟩
        dsimp only
        rw [compsTo_succ, if_pos hf, List.map_append]
        exact .inr ⟨id2, rfl, a2⟩
  · obtain rfl : n = i := by omega
    have h1 : decide ((n : Int) < (n : Int)) = false := by simp
    simp only [h1, ↓Both_true, ↓Both_false, wx, reduceCtorEq, reduceIte, Nat.reduceAdd, Nat.reduceEqDiff, Nat.reduceLT, Nat.reduceLeDiff, wj, ← List.map_take, ← List.map_drop]
    subst hQ5
    simp only [SeqQ, ↓Both_true, ↓Both_false, wx, reduceCtorEq, reduceIte, Nat.reduceAdd, Nat.reduceEqDiff, Nat.reduceLT, Nat.reduceLeDiff, wj, ← List.map_take, ← List.map_drop]
    exact hv.deep s 4
end Go.Proofs.Lh

namespace Go.Proofs.Lh
open Go Go.Bb Go.RowKit Go.Proofs.Lg
open Go.Ab (RD RDs D)

theorem natGe (a b : Nat) : decide ((a : Int) ≥ (b : Int)) = decide (a ≥ b) := by
  rw [Bool.eq_iff_iff]; simp only [decide_eq_true_eq]; omega
/-- Whether none before a line is in its component, so far. -/
def allGe (R : List (List Bool)) (i k : Nat) : Bool := ((List.range k).filter (sameC R i)).all fun j => decide (j ≥ i)
theorem allGe_succ (R : List (List Bool)) (i k : Nat) : allGe R i (k + 1) = (allGe R i k && (!sameC R i k || decide (k ≥ i))) := by
  unfold allGe
  rw [row_succ]
  cases h : sameC R i k with
  | true => rw [if_pos rfl, List.all_append]; simp
  | false => rw [if_neg (by decide)]; simp

set_option maxRecDepth 10000 in
set_option maxHeartbeats 4000000 in
theorem refComponents21_fn {g : Gr} (hg : GrOk g) : AFn Tryz.prog 16 [dGraph g] (dIntss (compsTo g.reach g.dim g.dim)) := by
  have hq := g.sq
  have hn : g.dim ≤ 1000000 := Nat.le_trans g.dim_le hg.few
  have hR := refReaches_all hg
  generalize g.reach = R at *
  generalize g.dim = n at *
  have hRl := hq.1
  refine AFn_of (F := k_refComponents21) (okb_refComponents21.trans (by kernel_rfl)) (by simp [k_refComponents21]) ?_
  simp only [k_refComponents21]
  rw [wpK_seq]
  generalize hB1 : SeqQ _ _ = B1
  simp only [dGraph, ↓Both_true, ↓Both_false, wx, reduceCtorEq, reduceIte, Nat.reduceAdd, Nat.reduceEqDiff, Nat.reduceLT, Nat.reduceLeDiff, wj, ← List.map_take, ← List.map_drop]
  subst hB1
  simp only [SeqQ]
  rw [wpK_seq]
  generalize hB2 : SeqQ _ _ = B2
  simp only [dGraph, Nat.le_refl, ↓Both_true, ↓Both_false, wx, reduceCtorEq, reduceIte, Nat.reduceAdd, Nat.reduceEqDiff, Nat.reduceLT, Nat.reduceLeDiff, wj, ← List.map_take, ← List.map_drop]
  refine CallM.data hR rfl ?_
  simp only [dRows, ↓Both_true, ↓Both_false, wx, reduceCtorEq, reduceIte, Nat.reduceAdd, Nat.reduceEqDiff, Nat.reduceLT, Nat.reduceLeDiff, wj, ← List.map_take, ← List.map_drop]
  subst hB2
  simp only [SeqQ]
  rw [wpK_seq]
  generalize hB3 : SeqQ _ _ = B3
  simp only [Nat.zero_mul, chunk, ↓Both_true, ↓Both_false, wx, reduceCtorEq, reduceIte, Nat.reduceAdd, Nat.reduceEqDiff, Nat.reduceLT, Nat.reduceLeDiff, wj, ← List.map_take, ← List.map_drop]
  subst hB3
  simp only [SeqQ]
  rw [wpK_seq]
  generalize hQ5 : SeqQ _ _ = Q5
  simp only [hRl, ↓Both_true, ↓Both_false, wx, reduceCtorEq, reduceIte, Nat.reduceAdd, Nat.reduceEqDiff, Nat.reduceLT, Nat.reduceLeDiff, wj, ← List.map_take, ← List.map_drop]
  generalize AObj.cells [AV.d (dLines g.lines), AV.d (dEdges g.edges)] = A
  refine LoopK.at (fun b : Nat × AV × List AObj => [(5, .d (.sc (.int .i64 b.1))), (3, .d (.sl 1 (R.map brow))), (4, b.2.1)]) (fun b => b.2.2)
    (fun m b => m + b.1 = n ∧ GrowR 37 1 b.2.2 b.2.1 ((compsTo R n b.1).map srow)) n (0, .tsl 1 1 [], _) (by simp [SubB, Go.Bb.look]) rfl ⟨rfl, .inr ⟨1, rfl, rfl⟩⟩ ?_
  rintro mm ⟨i, v, s⟩ ⟨hm, hv⟩
  dsimp only at hm hv ⊢
  by_cases hlt : i < n
  · have h1 : decide ((i : Int) < (n : Int)) = true := by simpa using hlt
    have h3 : IntKind.i64.wrap ((i : Int) + 1) = ((i + 1 : Nat) : Int) := wrapN (by omega) (by omega)
    rw [wpK_seq]
    generalize hB6 : SeqQ _ _ = B6
    simp only [h1, hRl, ↓Both_true, ↓Both_false, wx, reduceCtorEq, reduceIte, Nat.reduceAdd, Nat.reduceEqDiff, Nat.reduceLT, Nat.reduceLeDiff, wj, ← List.map_take, ← List.map_drop]
    subst hB6
    simp only [SeqQ]
    rw [wpK_seq]
    generalize hB3 : SeqQ _ _ = B3
    rw [wpK_block]
    generalize hB4 : BlockQ _ _ = B4
    rw [wpK_seq]
    generalize hB5 : SeqQ _ _ = B5
    simp only [Nat.zero_mul, chunk, ↓Both_true, ↓Both_false, wx, reduceCtorEq, reduceIte, Nat.reduceAdd, Nat.reduceEqDiff, Nat.reduceLT, Nat.reduceLeDiff, wj, ← List.map_take, ← List.map_drop]
    subst hB5
    simp only [SeqQ]
    rw [wpK_seq]
    generalize hB7 : SeqQ _ _ = B7
    simp only [↓Both_true, ↓Both_false, wx, reduceCtorEq, reduceIte, Nat.reduceAdd, Nat.reduceEqDiff, Nat.reduceLT, Nat.reduceLeDiff, wj, ← List.map_take, ← List.map_drop]
    subst hB7
    simp only [SeqQ]
    rw [wpK_seq]
    generalize hB13 : SeqQ _ _ = B13
    simp only [hRl, ↓Both_true, ↓Both_false, wx, reduceCtorEq, reduceIte, Nat.reduceAdd, Nat.reduceEqDiff, Nat.reduceLT, Nat.reduceLeDiff, wj, ← List.map_take, ← List.map_drop]
    refine LoopK.at (fun b : Nat × AV × List AObj => [(8, .d (.sc (.int .i64 b.1))), (7, .d (.sc (.bool (allGe R i b.1)))), (5, .d (.sc (.int .i64 i))), (3, .d (.sl 1 (R.map brow))), (4, v), (6, b.2.1)]) (fun b => b.2.2)
      (fun m b => m + b.1 = n ∧ GrowR 37 1 b.2.2 v ((compsTo R n i).map srow) ∧ GrowR 3 1 b.2.2 b.2.1 (((List.range b.1).filter (sameC R i)).map nrow)) n (0, .tsl s.length 1 [], _) (by simp [SubB, Go.Bb.look, allGe]) rfl ⟨rfl, hv.app _, .inr ⟨s.length, rfl, by simp⟩⟩ ?_
    clear hv
    rintro m2 ⟨k, u, s⟩ ⟨hm2, hv2, hu⟩
    dsimp only at hm2 hv2 hu ⊢
    by_cases hkn : k < n
    · have hk1 : decide ((k : Int) < (n : Int)) = true := by simpa using hkn
      have hk3 : IntKind.i64.wrap ((k : Int) + 1) = ((k + 1 : Nat) : Int) := wrapN (by omega) (by omega)
      have hrl := row_len R i k
      have hroom : roomOk ((((List.range k).filter (sameC R i)).map nrow).length + ([nrow k] : List (List D)).length) 8 = true := by simp only [roomOk, decide_eq_true_eq, List.length_map, List.length_cons, List.length_nil]; omega
      have e1 := natEq k i
      have e2 := natGe k i
      have hP1 := allGe_succ R i k
      obtain ⟨ri, u1, u2⟩ := rel_get hq hlt hkn
      obtain ⟨rk, w1, w2⟩ := rel_get hq hkn hlt
      have hsame : sameC R i k = (decide (k = i) || (rel R i k && rel R k i)) := rfl
      generalize rel R i k = x at u2 hsame
      generalize rel R k i = y at w2 hsame
      generalize decide (k = i) = z at e1 hsame
      rw [wpK_seq]
      generalize hB15 : SeqQ _ _ = B15
      simp only [hk1, hRl, ↓Both_true, ↓Both_false, wx, reduceCtorEq, reduceIte, Nat.reduceAdd, Nat.reduceEqDiff, Nat.reduceLT, Nat.reduceLeDiff, wj, ← List.map_take, ← List.map_drop]
      subst hB15
      simp only [SeqQ]
      rw [wpK_seq]
      generalize hB9 : SeqQ _ _ = B9
      rw [wpK_block]
      generalize hB10 : BlockQ _ _ = B10
      cases z with
      | true =>
        rw [wpK_seq]
        generalize hB12 : SeqQ _ _ = B12
        simp only [e1, u1, u2, w1, w2, brow, undef, ↓Both_true, ↓Both_false, wx, reduceCtorEq, reduceIte, Nat.reduceAdd, Nat.reduceEqDiff, Nat.reduceLT, Nat.reduceLeDiff, wj, ← List.map_take, ← List.map_drop]
        have hsm : sameC R i k = true := by rw [hsame]; simp
        subst hB12
        simp only [SeqQ]
        obtain ⟨u', s2, a1, ⟨id, rfl, a2⟩, a3⟩ := app_grow (T := 3) (sz := 1) (bytes := 8) (s := s ++ [.row 3 1 1]) (y := .tsl s.length 1 [[.sc (.int .i64 (k : Int))]]) (ys := [nrow k]) (hu.app _) rfl (by simp) hroom
        have b2 : GrowR 37 1 s2 v ((compsTo R n i).map srow) := (hv2.app _).keep fun j m hj => a3 j _ hj (fun m h => by cases h)
        cases hP : allGe R i k with
        | true =>
          simp only [hP, a1, e2, undef, ↓Both_true, ↓Both_false, wx, reduceCtorEq, reduceIte, Nat.reduceAdd, Nat.reduceEqDiff, Nat.reduceLT, Nat.reduceLeDiff, wj, ← List.map_take, ← List.map_drop]
          subst hB10
          simp only [BlockQ]
          subst hB9
          simp only [SeqQ, hk3, ↓Both_true, ↓Both_false, wx, reduceCtorEq, reduceIte, Nat.reduceAdd, Nat.reduceEqDiff, Nat.reduceLT, Nat.reduceLeDiff, wj, ← List.map_take, ← List.map_drop]
          refine ⟨m2 - 1, (k + 1, .tsl id 1 (((List.range k).filter (sameC R i)).map nrow ++ [nrow k]), s2), by omega, ⟨rfl, (by dsimp only; rw [hP1, hP, hsm]; simp), rfl⟩, rfl, by dsimp only; omega, b2, ?_⟩
          · dsimp only
            rw [row_succ, if_pos hsm, List.map_append]; exact .inr ⟨id, rfl, a2⟩
        | false =>
          simp only [hP, a1, e2, undef, ↓Both_true, ↓Both_false, wx, reduceCtorEq, reduceIte, Nat.reduceAdd, Nat.reduceEqDiff, Nat.reduceLT, Nat.reduceLeDiff, wj, ← List.map_take, ← List.map_drop]
          subst hB10
          simp only [BlockQ]
          subst hB9
          simp only [SeqQ, hk3, ↓Both_true, ↓Both_false, wx, reduceCtorEq, reduceIte, Nat.reduceAdd, Nat.reduceEqDiff, Nat.reduceLT, Nat.reduceLeDiff, wj, ← List.map_take, ← List.map_drop]
          refine ⟨m2 - 1, (k + 1, .tsl id 1 (((List.range k).filter (sameC R i)).map nrow ++ [nrow k]), s2), by omega, ⟨rfl, (by dsimp only; rw [hP1, hP, hsm]; simp), rfl⟩, rfl, by dsimp only; omega, b2, ?_⟩
          · dsimp only
            rw [row_succ, if_pos hsm, List.map_append]; exact .inr ⟨id, rfl, a2⟩
      | false =>
        cases x with
        | false =>
          rw [wpK_seq]
          generalize hB12 : SeqQ _ _ = B12
          simp only [e1, u1, u2, w1, w2, brow, undef, ↓Both_true, ↓Both_false, wx, reduceCtorEq, reduceIte, Nat.reduceAdd, Nat.reduceEqDiff, Nat.reduceLT, Nat.reduceLeDiff, wj, ← List.map_take, ← List.map_drop]
          have hsm : sameC R i k = false := by rw [hsame]; simp
          subst hB12
          simp only [SeqQ, ↓Both_true, ↓Both_false, wx, reduceCtorEq, reduceIte, Nat.reduceAdd, Nat.reduceEqDiff, Nat.reduceLT, Nat.reduceLeDiff, wj, ← List.map_take, ← List.map_drop]
          subst hB10
          simp only [BlockQ]
          subst hB9
          simp only [SeqQ, hk3, ↓Both_true, ↓Both_false, wx, reduceCtorEq, reduceIte, Nat.reduceAdd, Nat.reduceEqDiff, Nat.reduceLT, Nat.reduceLeDiff, wj, ← List.map_take, ← List.map_drop]
          refine ⟨m2 - 1, (k + 1, u, s), by omega, ⟨rfl, (by dsimp only; rw [hP1, hsm]; simp), rfl⟩, rfl, by dsimp only; omega, hv2, ?_⟩
          · dsimp only
            rw [row_succ, if_neg (by rw [hsm]; decide)]; exact hu
        | true =>
          cases y with
          | false =>
            rw [wpK_seq]
            generalize hB12 : SeqQ _ _ = B12
            simp only [e1, u1, u2, w1, w2, brow, undef, ↓Both_true, ↓Both_false, wx, reduceCtorEq, reduceIte, Nat.reduceAdd, Nat.reduceEqDiff, Nat.reduceLT, Nat.reduceLeDiff, wj, ← List.map_take, ← List.map_drop]
            have hsm : sameC R i k = false := by rw [hsame]; simp
            subst hB12
            simp only [SeqQ, ↓Both_true, ↓Both_false, wx, reduceCtorEq, reduceIte, Nat.reduceAdd, Nat.reduceEqDiff, Nat.reduceLT, Nat.reduceLeDiff, wj, ← List.map_take, ← List.map_drop]
            subst hB10
            simp only [BlockQ]
            subst hB9
            simp only [SeqQ, hk3, ↓Both_true, ↓Both_false, wx, reduceCtorEq, reduceIte, Nat.reduceAdd, Nat.reduceEqDiff, Nat.reduceLT, Nat.reduceLeDiff, wj, ← List.map_take, ← List.map_drop]
            refine ⟨m2 - 1, (k + 1, u, s), by omega, ⟨rfl, (by dsimp only; rw [hP1, hsm]; simp), rfl⟩, rfl, by dsimp only; omega, hv2, ?_⟩
            · dsimp only
              rw [row_succ, if_neg (by rw [hsm]; decide)]; exact hu
          | true =>
            rw [wpK_seq]
            generalize hB12 : SeqQ _ _ = B12
            simp only [e1, u1, u2, w1, w2, brow, undef, ↓Both_true, ↓Both_false, wx, reduceCtorEq, reduceIte, Nat.reduceAdd, Nat.reduceEqDiff, Nat.reduceLT, Nat.reduceLeDiff, wj, ← List.map_take, ← List.map_drop]
            have hsm : sameC R i k = true := by rw [hsame]; simp
            subst hB12
            simp only [SeqQ]
            obtain ⟨u', s2, a1, ⟨id, rfl, a2⟩, a3⟩ := app_grow (T := 3) (sz := 1) (bytes := 8) (s := s ++ [.row 3 1 1]) (y := .tsl s.length 1 [[.sc (.int .i64 (k : Int))]]) (ys := [nrow k]) (hu.app _) rfl (by simp) hroom
            have b2 : GrowR 37 1 s2 v ((compsTo R n i).map srow) := (hv2.app _).keep fun j m hj => a3 j _ hj (fun m h => by cases h)
            cases hP : allGe R i k with
            | true =>
              simp only [hP, a1, e2, undef, ↓Both_true, ↓Both_false, wx, reduceCtorEq, reduceIte, Nat.reduceAdd, Nat.reduceEqDiff, Nat.reduceLT, Nat.reduceLeDiff, wj, ← List.map_take, ← List.map_drop]
              subst hB10
              simp only [BlockQ]
              subst hB9
              simp only [SeqQ, hk3, ↓Both_true, ↓Both_false, wx, reduceCtorEq, reduceIte, Nat.reduceAdd, Nat.reduceEqDiff, Nat.reduceLT, Nat.reduceLeDiff, wj, ← List.map_take, ← List.map_drop]
              refine ⟨m2 - 1, (k + 1, .tsl id 1 (((List.range k).filter (sameC R i)).map nrow ++ [nrow k]), s2), by omega, ⟨rfl, (by dsimp only; rw [hP1, hP, hsm]; simp), rfl⟩, rfl, by dsimp only; omega, b2, ?_⟩
              · dsimp only
                rw [row_succ, if_pos hsm, List.map_append]; exact .inr ⟨id, rfl, a2⟩
            | false =>
              simp only [hP, a1, e2, undef, ↓Both_true, ↓Both_false, wx, reduceCtorEq, reduceIte, Nat.reduceAdd, Nat.reduceEqDiff, Nat.reduceLT, Nat.reduceLeDiff, wj, ← List.map_take, ← List.map_drop]
              subst hB10
              simp only [BlockQ]
              subst hB9
              simp only [SeqQ, hk3, ↓Both_true, ↓Both_false, wx, reduceCtorEq, reduceIte, Nat.reduceAdd, Nat.reduceEqDiff, Nat.reduceLT, Nat.reduceLeDiff, wj, ← List.map_take, ← List.map_drop]
              refine ⟨m2 - 1, (k + 1, .tsl id 1 (((List.range k).filter (sameC R i)).map nrow ++ [nrow k]), s2), by omega, ⟨rfl, (by dsimp only; rw [hP1, hP, hsm]; simp), rfl⟩, rfl, by dsimp only; omega, b2, ?_⟩
              · dsimp only
                rw [row_succ, if_pos hsm, List.map_append]; exact .inr ⟨id, rfl, a2⟩
    · obtain rfl : n = k := by omega
      have hk1 : decide ((n : Int) < (n : Int)) = false := by simp
      simp only [hk1, hRl, ↓Both_true, ↓Both_false, wx, reduceCtorEq, reduceIte, Nat.reduceAdd, Nat.reduceEqDiff, Nat.reduceLT, Nat.reduceLeDiff, wj, ← List.map_take, ← List.map_drop]
      subst hB13
      simp only [SeqQ]
      have hcr : (List.range n).filter (sameC R i) = compRow R n i := rfl
      have hfi : allGe R i n = firstB R i := first_ref R n i hlt
      rw [hcr] at hu
      rw [hfi]
      cases hf : firstB R i with
      | false =>
        simp only [↓Both_true, ↓Both_false, wx, reduceCtorEq, reduceIte, Nat.reduceAdd, Nat.reduceEqDiff, Nat.reduceLT, Nat.reduceLeDiff, wj, ← List.map_take, ← List.map_drop]
        subst hB4
        simp only [BlockQ]
        subst hB3
        simp only [SeqQ, h3, ↓Both_true, ↓Both_false, wx, reduceCtorEq, reduceIte, Nat.reduceAdd, Nat.reduceEqDiff, Nat.reduceLT, Nat.reduceLeDiff, wj, ← List.map_take, ← List.map_drop]
        refine ⟨mm - 1, (i + 1, v, s), by omega, ⟨rfl, rfl⟩, rfl, by dsimp only; omega, ?_⟩
        dsimp only
        rw [compsTo_succ, if_neg (by rw [hf]; decide)]; exact hv2
      | true =>
        have hcl := compsTo_len R n i
        have hroom : roomOk (((compsTo R n i).map srow).length + ([srow (compRow R n i)] : List (List D)).length) 24 = true := by simp only [roomOk, decide_eq_true_eq, List.length_map, List.length_cons, List.length_nil]; omega
        have hne := compRow_ne (R := R) hlt
        rcases hu with ⟨h0, _⟩ | ⟨id, rfl, hid⟩
        · exact absurd (List.map_eq_nil_iff.1 h0) hne
        obtain ⟨v', s2, a1, ⟨id2, rfl, a2⟩, a3⟩ := app_grow (T := 37) (sz := 1) (bytes := 24) (s := s ++ [.row 37 1 1]) (y := .tsl s.length 1 [[.sl 1 ((compRow R n i).map nrow)]]) (ys := [srow (compRow R n i)]) (hv2.app _) rfl (by simp) hroom
        simp only [a1, ↓Both_true, ↓Both_false, wx, reduceCtorEq, reduceIte, Nat.reduceAdd, Nat.reduceEqDiff, Nat.reduceLT, Nat.reduceLeDiff, wj, ← List.map_take, ← List.map_drop]
        subst hB4
        simp only [BlockQ]
        subst hB3
        simp only [SeqQ, h3, ↓Both_true, ↓Both_false, wx, reduceCtorEq, reduceIte, Nat.reduceAdd, Nat.reduceEqDiff, Nat.reduceLT, Nat.reduceLeDiff, wj, ← List.map_take, ← List.map_drop]
        refine ⟨mm - 1, (i + 1, _, s2), by omega, ⟨rfl, rfl⟩, rfl, by dsimp only; omega, ?_⟩
        dsimp only
        rw [compsTo_succ, if_pos hf, List.map_append]
        exact .inr ⟨id2, rfl, a2⟩
  · obtain rfl : n = i := by omega
    have h1 : decide ((n : Int) < (n : Int)) = false := by simp
    simp only [h1, hRl, ↓Both_true, ↓Both_false, wx, reduceCtorEq, reduceIte, Nat.reduceAdd, Nat.reduceEqDiff, Nat.reduceLT, Nat.reduceLeDiff, wj, ← List.map_take, ← List.map_drop]
    subst hQ5
    simp only [SeqQ, ↓Both_true, ↓Both_false, wx, reduceCtorEq, reduceIte, Nat.reduceAdd, Nat.reduceEqDiff, Nat.reduceLT, Nat.reduceLeDiff, wj, ← List.map_take, ← List.map_drop]
    exact hv.deep s 4
end Go.Proofs.Lh

namespace Go.Proofs.Lh
open Go Go.Bb Go.RowKit Go.Proofs.Lg
open Go.Ab (RD RDs D)

theorem linCheck_fn {g : Gr} (hg : GrOk g) : AFn Tryz.prog 7 [dGraph g] (.sc (.int .i64 g.check)) :=
  graph_fn Tryz.func7 (by rfl) (by rfl) hg fun vl ve w hat => (Check_any vl ve g w hat).mono fun e w' ⟨he, hb⟩ => ⟨_, he, fun _ => .sc _, hb⟩

set_option maxRecDepth 10000 in
set_option maxHeartbeats 4000000 in
theorem graphLaw_fn (haw : AFn Tryz.prog 6 [] (.sc (.bool true))) {g : Gr} (hg : GrAny g) (i j : Int) : AFn Tryz.prog 3 [dGraph g, .sc (.int .i64 i), .sc (.int .i64 j)] (.sc (.bool true)) := by
  have h22 : 2 ≤ 2 := Nat.le_refl _
  have hgr := Great_fn hg.okl hg.len hg.elen
  refine AFn_of (F := k_LinegraphGraph) (okb_LinegraphGraph.trans (by kernel_rfl)) (by simp [k_LinegraphGraph]) ?_
  simp only [k_LinegraphGraph, dGraph]
  rw [wpK_seq]
  generalize hQ1 : SeqQ _ _ = Q1
  simp only [h22, ↓Both_true, ↓Both_false, wx, reduceCtorEq, reduceIte, Nat.reduceAdd, Nat.reduceEqDiff, Nat.reduceLT, Nat.reduceLeDiff, wj, ← List.map_take, ← List.map_drop]
  subst hQ1
  simp only [SeqQ]
  rw [wpK_seq]
  generalize hQ2 : SeqQ _ _ = Q2
  simp only [h22, ↓Both_true, ↓Both_false, wx, reduceCtorEq, reduceIte, Nat.reduceAdd, Nat.reduceEqDiff, Nat.reduceLT, Nat.reduceLeDiff, wj, ← List.map_take, ← List.map_drop]
  refine CallM.data hgr rfl ?_
  cases hbig : g.big with
  | true =>
    simp only [h22, dBool, ↓Both_true, ↓Both_false, wx, reduceCtorEq, reduceIte, Nat.reduceAdd, Nat.reduceEqDiff, Nat.reduceLT, Nat.reduceLeDiff, wj, ← List.map_take, ← List.map_drop]
    refine CallM.data haw rfl ?_
    simp only [h22, dBool, ↓Both_true, ↓Both_false, wx, reduceCtorEq, reduceIte, Nat.reduceAdd, Nat.reduceEqDiff, Nat.reduceLT, Nat.reduceLeDiff, wj, ← List.map_take, ← List.map_drop]
    subst hQ2
    simp only [dBool, deepD, AV.toL, ↓Both_true, ↓Both_false, wx, reduceCtorEq, reduceIte, Nat.reduceAdd, Nat.reduceEqDiff, Nat.reduceLT, Nat.reduceLeDiff, wj, ← List.map_take, ← List.map_drop]
  | false =>
    have hok := hg.ok hbig
    have hsq := g.sq
    have hdim : g.dim ≤ 1000000 := Nat.le_trans g.dim_le hok.few
    have hSB := refSameBools_fn g.reach (by rw [hsq.1]; exact hdim) fun r hr => by rw [hsq.2 r hr]; exact hdim
    have hSI := refSameInts21_fn (compsTo g.reach g.dim g.dim) (Nat.le_trans (compsTo_len _ _ _) hdim) fun r hr => by
      unfold compsTo at hr
      obtain ⟨x, _, rfl⟩ := List.mem_map.1 hr
      exact Nat.le_trans (row_len _ _ _) hdim
    have hB1 := Before_all hok i j
    have hB2 := refBefore21_fn hok i j
    generalize aheadI g.reach i j = bv at hB1 hB2
    have q1 : (g.check == g.check) = true := by simp
    have q2 : (bv == bv) = true := by simp
    simp only [h22, dBool, ↓Both_true, ↓Both_false, wx, reduceCtorEq, reduceIte, Nat.reduceAdd, Nat.reduceEqDiff, Nat.reduceLT, Nat.reduceLeDiff, wj, ← List.map_take, ← List.map_drop]
    subst hQ2
    simp only [SeqQ]
    rw [wpK_seq]
    generalize hQ3 : SeqQ _ _ = Q3
    simp only [h22, undef, ↓Both_true, ↓Both_false, wx, reduceCtorEq, reduceIte, Nat.reduceAdd, Nat.reduceEqDiff, Nat.reduceLT, Nat.reduceLeDiff, wj, ← List.map_take, ← List.map_drop]
    refine CallM.data (linCheck_fn hok) rfl ?_
    simp only [h22, undef, ↓Both_true, ↓Both_false, wx, reduceCtorEq, reduceIte, Nat.reduceAdd, Nat.reduceEqDiff, Nat.reduceLT, Nat.reduceLeDiff, wj, ← List.map_take, ← List.map_drop]
    refine CallM.data (refCheck_fn hok) rfl ?_
    simp only [h22, q1, undef, ↓Both_true, ↓Both_false, wx, reduceCtorEq, reduceIte, Nat.reduceAdd, Nat.reduceEqDiff, Nat.reduceLT, Nat.reduceLeDiff, wj, ← List.map_take, ← List.map_drop]
    refine CallM.data (linReaches_fn hok) rfl ?_
    simp only [h22, q1, undef, ↓Both_true, ↓Both_false, wx, reduceCtorEq, reduceIte, Nat.reduceAdd, Nat.reduceEqDiff, Nat.reduceLT, Nat.reduceLeDiff, wj, ← List.map_take, ← List.map_drop]
    refine CallM.data (refReaches_all hok) rfl ?_
    simp only [h22, q1, undef, ↓Both_true, ↓Both_false, wx, reduceCtorEq, reduceIte, Nat.reduceAdd, Nat.reduceEqDiff, Nat.reduceLT, Nat.reduceLeDiff, wj, ← List.map_take, ← List.map_drop]
    refine CallM.data hSB rfl ?_
    simp only [h22, q1, dBool, undef, ↓Both_true, ↓Both_false, wx, reduceCtorEq, reduceIte, Nat.reduceAdd, Nat.reduceEqDiff, Nat.reduceLT, Nat.reduceLeDiff, wj, ← List.map_take, ← List.map_drop]
    refine CallM.data hB1 rfl ?_
    simp only [h22, q1, dBool, undef, ↓Both_true, ↓Both_false, wx, reduceCtorEq, reduceIte, Nat.reduceAdd, Nat.reduceEqDiff, Nat.reduceLT, Nat.reduceLeDiff, wj, ← List.map_take, ← List.map_drop]
    refine CallM.data hB2 rfl ?_
    simp only [h22, q1, q2, keyB, eqKb, dBool, undef, ↓Both_true, ↓Both_false, wx, reduceCtorEq, reduceIte, Nat.reduceAdd, Nat.reduceEqDiff, Nat.reduceLT, Nat.reduceLeDiff, wj, ← List.map_take, ← List.map_drop]
    refine CallM.data (linComponents_fn hok) rfl ?_
    simp only [h22, dBool, undef, ↓Both_true, ↓Both_false, wx, reduceCtorEq, reduceIte, Nat.reduceAdd, Nat.reduceEqDiff, Nat.reduceLT, Nat.reduceLeDiff, wj, ← List.map_take, ← List.map_drop]
    refine CallM.data (refComponents21_fn hok) rfl ?_
    simp only [h22, dBool, undef, ↓Both_true, ↓Both_false, wx, reduceCtorEq, reduceIte, Nat.reduceAdd, Nat.reduceEqDiff, Nat.reduceLT, Nat.reduceLeDiff, wj, ← List.map_take, ← List.map_drop]
    refine CallM.data hSI rfl ?_
    simp only [h22, dBool, undef, ↓Both_true, ↓Both_false, wx, reduceCtorEq, reduceIte, Nat.reduceAdd, Nat.reduceEqDiff, Nat.reduceLT, Nat.reduceLeDiff, wj, ← List.map_take, ← List.map_drop]
    refine CallM.data haw rfl ?_
    simp only [h22, dBool, undef, ↓Both_true, ↓Both_false, wx, reduceCtorEq, reduceIte, Nat.reduceAdd, Nat.reduceEqDiff, Nat.reduceLT, Nat.reduceLeDiff, wj, ← List.map_take, ← List.map_drop]
    refine ⟨(ordF_coarse (by simp only [List.map_cons, List.map_nil, coarse_rd, coarse_wr]; rfl)), ?_⟩
    subst hQ3
    simp only [SeqQ, dBool, deepD, AV.toL, ↓Both_true, ↓Both_false, wx, reduceCtorEq, reduceIte, Nat.reduceAdd, Nat.reduceEqDiff, Nat.reduceLT, Nat.reduceLeDiff, wj, ← List.map_take, ← List.map_drop]
end Go.Proofs.Lh
