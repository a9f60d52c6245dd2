/-
  Part Y1 of this claim's proof. Joined by merge.py from the texts of wip/tpl.
-/
import Derived.Test.YtclholnhkhjjaaaGreatCF
set_option linter.unusedVariables false
set_option linter.unusedSimpArgs false
set_option linter.unnecessarySimpa false
namespace Go.Proofs.Lg
open Go Go.Ab

def dNat (n : Nat) : D := .sc (.int .i64 n)
def dBool (b : Bool) : D := .sc (.bool b)
def nrow (j : Nat) : List D := [.sc (.int .i64 j)]
def dNats (l : List Nat) : D := .sl 1 (l.map nrow)

theorem wrapN {n : Int} {m : Nat} (h : n = m) (hm : m < 9223372036854775808) : IntKind.i64.wrap n = (m : Int) := by
  subst h
  simp only [IntKind.wrap, IntKind.bits, IntKind.signed]
  have : ((m : Int) % 2 ^ 64) = m := by omega
  simp only [this]
  simp; omega

theorem any_take_end {l : List Nat} {p : Nat → Bool} {k : Nat} (h : (l.take k).any p = false) (hk : l.length ≤ k) : l.any p = false := by rwa [List.take_of_length_le hk] at h
theorem any_take_step {l : List Nat} {p : Nat → Bool} {k : Nat} (h : (l.take k).any p = false) (hk : k < l.length) (hp : p l[k] = false) : (l.take (k + 1)).any p = false := by
  rw [List.take_succ_eq_append_getElem hk, List.any_append, h]; simp [hp]
theorem any_hit {l : List Nat} {p : Nat → Bool} {k : Nat} (hk : k < l.length) (hp : p l[k] = true) : l.any p = true := List.any_eq_true.2 ⟨l[k], List.getElem_mem _, hp⟩

theorem has_fn (l : List Nat) (x : Nat) (hl : l.length ≤ 1000000) : AFn Tryz.prog 85 [dNats l, dNat x] (dBool (l.any fun j => j == x)) := by
  refine AFn_of ok_refHas (by simp [c_refHas]) ?_
  simp only [c_refHas, dNats, dNat, dBool, ↓Both_true, ↓Both_false, wpK_skip, wpK_ops, wpK_seq, wpK_cond, wpK_block, wpK_loop, wpK_exit, wpK_ret, wpC_nil, wpC_cons, gdC, OpsQ, CI.sem, CI.touch, X.ev, Go.Ab.look, putF, undefA, scOf, intA, slA, boundA, binS, SeqQ, BlockQ, RetQ, resD, resAll, resOne, deepD, mapO, chunk, srcA, fillA, AV.toD, AV.toL, toLs, AV.cells, AV.row, AV.leaf, D.leaf, Value.oneCell', evs, argsFr, List.zipIdx_cons, List.zipIdx_nil, List.map_cons, List.map_nil, Option.map_some, Option.map_none, Option.bind_some, Option.bind_none, reduceCtorEq, false_implies, true_implies, and_true, true_and, and_self, if_true, if_false, reduceIte, Nat.reduceAdd, Nat.reduceEqDiff, Nat.reduceLT, Nat.reduceLeDiff, List.set_cons_zero, List.set_cons_succ, List.length_cons, List.length_nil, List.reverse_cons, List.reverse_nil, List.nil_append, List.cons_append, List.take_succ_cons, List.take_zero, List.drop_succ_cons, List.drop_zero, beqT, beqF, Bool.not_true, Bool.not_false, Bool.true_and, Bool.and_true, Bool.false_and, Bool.and_false, Bool.not_not, List.length_map, Int.toNat_natCast, Int.natCast_nonneg, List.getElem?_map, eq_self, SubB, List.getElem?_cons_zero, List.getElem?_cons_succ, List.length_append, Option.some.injEq, D.sc.injEq, Value.bool.injEq, AV.d.injEq, Value.int.injEq, D.sl.injEq]
  refine LoopK.count (fun k => [(5, .d (.sc (.int .i64 k))), (0, .d (.sl 1 (l.map nrow))), (1, .d (.sc (.int .i64 x)))]) (fun _ => []) (fun k => ((l.take k).any fun j => j == x) = false) l.length (by simp [SubB, Go.Ab.look]) rfl (by simp) fun k hk hi => ?_
  by_cases hlt : k < l.length
  · have h1 : decide ((k : Int) < (l.length : Int)) = true := by simpa using hlt
    have h2 : l[k]? = some l[k] := List.getElem?_eq_getElem hlt
    have h3 : IntKind.i64.wrap ((k : Int) + 1) = ((k + 1 : Nat) : Int) := wrapN (by omega) (by omega)
    have h4 : (l[k] == x) = false → ((l.take (k + 1)).any fun j => j == x) = false := fun h => any_take_step hi hlt h
    have h5 : (l[k] == x) = true → (l.any fun j => j == x) = true := fun h => any_hit hlt h
    generalize l[k] = y at h2 h4 h5
    cases hb : y == x with
    | true =>
      have h6 : ((y : Int) == (x : Int)) = true := by simp at hb ⊢; omega
      simp only [h1, h2, h3, h6, h5 hb, nrow, ↓Both_true, ↓Both_false, wpK_skip, wpK_ops, wpK_seq, wpK_cond, wpK_block, wpK_loop, wpK_exit, wpK_ret, wpC_nil, wpC_cons, gdC, OpsQ, CI.sem, CI.touch, X.ev, Go.Ab.look, putF, undefA, scOf, intA, slA, boundA, binS, SeqQ, BlockQ, RetQ, resD, resAll, resOne, deepD, mapO, chunk, srcA, fillA, AV.toD, AV.toL, toLs, AV.cells, AV.row, AV.leaf, D.leaf, Value.oneCell', evs, argsFr, List.zipIdx_cons, List.zipIdx_nil, List.map_cons, List.map_nil, Option.map_some, Option.map_none, Option.bind_some, Option.bind_none, reduceCtorEq, false_implies, true_implies, and_true, true_and, and_self, if_true, if_false, reduceIte, Nat.reduceAdd, Nat.reduceEqDiff, Nat.reduceLT, Nat.reduceLeDiff, List.set_cons_zero, List.set_cons_succ, List.length_cons, List.length_nil, List.reverse_cons, List.reverse_nil, List.nil_append, List.cons_append, List.take_succ_cons, List.take_zero, List.drop_succ_cons, List.drop_zero, beqT, beqF, Bool.not_true, Bool.not_false, Bool.true_and, Bool.and_true, Bool.false_and, Bool.and_false, Bool.not_not, List.length_map, Int.toNat_natCast, Int.natCast_nonneg, List.getElem?_map, eq_self, SubB, List.getElem?_cons_zero, List.getElem?_cons_succ, List.length_append, Option.some.injEq, D.sc.injEq, Value.bool.injEq, AV.d.injEq, Value.int.injEq, D.sl.injEq]
    | false =>
      have h6 : ((y : Int) == (x : Int)) = false := by simp at hb ⊢; omega
      simp only [h1, h2, h3, h6, h4 hb, hlt, nrow, ↓Both_true, ↓Both_false, wpK_skip, wpK_ops, wpK_seq, wpK_cond, wpK_block, wpK_loop, wpK_exit, wpK_ret, wpC_nil, wpC_cons, gdC, OpsQ, CI.sem, CI.touch, X.ev, Go.Ab.look, putF, undefA, scOf, intA, slA, boundA, binS, SeqQ, BlockQ, RetQ, resD, resAll, resOne, deepD, mapO, chunk, srcA, fillA, AV.toD, AV.toL, toLs, AV.cells, AV.row, AV.leaf, D.leaf, Value.oneCell', evs, argsFr, List.zipIdx_cons, List.zipIdx_nil, List.map_cons, List.map_nil, Option.map_some, Option.map_none, Option.bind_some, Option.bind_none, reduceCtorEq, false_implies, true_implies, and_true, true_and, and_self, if_true, if_false, reduceIte, Nat.reduceAdd, Nat.reduceEqDiff, Nat.reduceLT, Nat.reduceLeDiff, List.set_cons_zero, List.set_cons_succ, List.length_cons, List.length_nil, List.reverse_cons, List.reverse_nil, List.nil_append, List.cons_append, List.take_succ_cons, List.take_zero, List.drop_succ_cons, List.drop_zero, beqT, beqF, Bool.not_true, Bool.not_false, Bool.true_and, Bool.and_true, Bool.false_and, Bool.and_false, Bool.not_not, List.length_map, Int.toNat_natCast, Int.natCast_nonneg, List.getElem?_map, eq_self, SubB, List.getElem?_cons_zero, List.getElem?_cons_succ, List.length_append, Option.some.injEq, D.sc.injEq, Value.bool.injEq, AV.d.injEq, Value.int.injEq, D.sl.injEq]
  · have h1 : decide ((k : Int) < (l.length : Int)) = false := by simpa using hlt
    simp only [h1, any_take_end hi (by omega), ↓Both_true, ↓Both_false, wpK_skip, wpK_ops, wpK_seq, wpK_cond, wpK_block, wpK_loop, wpK_exit, wpK_ret, wpC_nil, wpC_cons, gdC, OpsQ, CI.sem, CI.touch, X.ev, Go.Ab.look, putF, undefA, scOf, intA, slA, boundA, binS, SeqQ, BlockQ, RetQ, resD, resAll, resOne, deepD, mapO, chunk, srcA, fillA, AV.toD, AV.toL, toLs, AV.cells, AV.row, AV.leaf, D.leaf, Value.oneCell', evs, argsFr, List.zipIdx_cons, List.zipIdx_nil, List.map_cons, List.map_nil, Option.map_some, Option.map_none, Option.bind_some, Option.bind_none, reduceCtorEq, false_implies, true_implies, and_true, true_and, and_self, if_true, if_false, reduceIte, Nat.reduceAdd, Nat.reduceEqDiff, Nat.reduceLT, Nat.reduceLeDiff, List.set_cons_zero, List.set_cons_succ, List.length_cons, List.length_nil, List.reverse_cons, List.reverse_nil, List.nil_append, List.cons_append, List.take_succ_cons, List.take_zero, List.drop_succ_cons, List.drop_zero, beqT, beqF, Bool.not_true, Bool.not_false, Bool.true_and, Bool.and_true, Bool.false_and, Bool.and_false, Bool.not_not, List.length_map, Int.toNat_natCast, Int.natCast_nonneg, List.getElem?_map, eq_self, SubB, List.getElem?_cons_zero, List.getElem?_cons_succ, List.length_append, Option.some.injEq, D.sc.injEq, Value.bool.injEq, AV.d.injEq, Value.int.injEq, D.sl.injEq]
end Go.Proofs.Lg
