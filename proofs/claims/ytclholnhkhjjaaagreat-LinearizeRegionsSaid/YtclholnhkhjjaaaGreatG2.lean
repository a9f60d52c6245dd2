/-
  Part G2 of this claim's proof. Joined by merge.py from the texts of wip/tpl.
-/
import Derived.Test.YtclholnhkhjjaaaGreatG1
set_option linter.unusedVariables false
set_option linter.unusedSimpArgs false
set_option linter.unnecessarySimpa false
namespace Go.Proofs.Lg
open Go Go.RowKit Go.Shelf Go.Maps

theorem gaps_put {w : World} {D : DataW Unit} {base : Nat} {v' : Value} {f : Nat → Nat} {l : List Nat} {i : Nat} (hD : IsMap D) (h2 : ∀ m : Nat, D.atKey (.int .i64 m) .nil = grpD (l.filter fun i => f i == m))
    (ho : w.ownsInts base 3 .i64 v' (nats (l.filter fun j => f j == f i) ++ [(i : Int)])) (m : Nat) :
    (D.put (.int .i64 (f i : Nat)) (rowDatum .i64 v' (nats (l.filter fun j => f j == f i) ++ [(i : Int)]))).atKey (.int .i64 m) .nil = grpD ((l ++ [i]).filter fun j => f j == m) := by
  have e1 : nats (l.filter fun j => f j == f i) ++ [(i : Int)] = nats ((l ++ [i]).filter fun j => f j == f i) := by simp [nats, List.filter_append]
  by_cases hm : m = f i
  · subst hm
    rw [atKey_put_same hD (by simp [WideAt.IsKeyLit])]
    rw [e1] at ho ⊢
    exact grp_datum ho (by simp [List.filter_append])
  · rw [atKey_put_other (by simp; omega), h2 m]
    congr 1
    have : (f i == m) = false := by simp; omega
    simp [List.filter_append, this]
end Go.Proofs.Lg
