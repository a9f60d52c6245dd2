/-
  Part W1 of this claim's proof. Joined by merge.py from the texts of wip/tpl.
-/
import Derived.Test.YtclholnhkhjjaaaGreatM1
set_option linter.unusedVariables false
set_option linter.unusedSimpArgs false
set_option linter.unnecessarySimpa false
namespace Go.Proofs.Lg
open Go Go.RowKit Go.Shelf

/-- Do lines i and j lie on one side? -/
def adj (rows : List (List Bool)) (i j : Nat) : Bool := relat rows i j || (rel rows i j && rel rows j i)

def vstep (rows : List (List Bool)) (i : Nat) (G : List Nat → Nat → List Nat × List Nat) (c : List Nat × List Nat) (j : Nat) : List Nat × List Nat :=
  if !c.2.contains j && adj rows i j then (c.1 ++ (G c.2 j).1, (G c.2 j).2) else c

def visit (rows : List (List Bool)) (l : List Nat) : Nat → List Nat → Nat → List Nat × List Nat
  | 0, S, i => l.foldl (vstep rows i fun S _ => ([], S)) ([i], i :: S)
  | f + 1, S, i => l.foldl (vstep rows i (visit rows l f)) ([i], i :: S)

/-- How many of the lines have not been seen. -/
def unseen (l S : List Nat) : Nat := (l.filter fun j => !S.contains j).length

theorem unseen_le (l S : List Nat) : unseen l S ≤ l.length := List.length_filter_le _ _
theorem unseen_step (x : Nat) (l S : List Nat) : unseen (x :: l) S = unseen l S + if S.contains x = true then 0 else 1 := by
  unfold unseen
  rw [List.filter_cons]
  cases S.contains x <;> rfl
theorem contains_step (x j : Nat) (S : List Nat) : (j :: S).contains x = (decide (x = j) || S.contains x) := by
  rw [List.contains_cons]
  congr 1
theorem unseen_pos {l S : List Nat} {j : Nat} (hj : j ∈ l) (hs : S.contains j = false) : 0 < unseen l S := by
  unfold unseen
  exact List.length_pos_of_mem (List.mem_filter.2 ⟨hj, by rw [hs]; rfl⟩)
theorem unseen_cons_le (j : Nat) (S : List Nat) : ∀ l : List Nat, unseen l (j :: S) ≤ unseen l S
  | [] => Nat.le_refl _
  | x :: l => by
    have ih := unseen_cons_le j S l
    rw [unseen_step, unseen_step, contains_step]
    by_cases h1 : S.contains x = true
    · rw [h1, Bool.or_true]; omega
    · rw [if_neg h1]
      split <;> omega
theorem unseen_cons {S : List Nat} {j : Nat} (hs : S.contains j = false) : ∀ {l : List Nat}, j ∈ l → unseen l (j :: S) + 1 ≤ unseen l S
  | [], h => by cases h
  | x :: l, h => by
    rw [unseen_step, unseen_step, contains_step]
    by_cases hx : x = j
    · subst hx
      have := unseen_cons_le x S l
      rw [hs, decide_eq_true rfl, Bool.true_or, if_pos rfl, if_neg (by decide)]
      omega
    · have hj : j ∈ l := by
        rcases List.mem_cons.1 h with h | h
        · exact absurd h.symm hx
        · exact h
      have ih := unseen_cons hs hj
      rw [decide_eq_false hx, Bool.false_or]
      omega

/-- What a visit keeps to. -/
structure VOk (l : List Nat) (S : List Nat) (r : List Nat × List Nat) : Prop where
  len : r.2.length = r.1.length + S.length
  sum : r.2.length + unseen l r.2 ≤ S.length + unseen l S
  mem : ∀ x ∈ r.1, x ∈ l

theorem vstep_ok {rows : List (List Bool)} {l S : List Nat} {i j : Nat} {G : List Nat → Nat → List Nat × List Nat} {c : List Nat × List Nat} (hc : VOk l S c) (hG : c.2.contains j = false → VOk l c.2 (G c.2 j)) : VOk l S (vstep rows i G c j) := by
  unfold vstep
  split
  · rename_i h
    have h1 : c.2.contains j = false := by simp at h; simpa using h.1
    have hg := hG h1
    have := hc.len; have := hc.sum; have := hg.len; have := hg.sum
    refine ⟨by simp; omega, by simp only; omega, fun x hx => ?_⟩
    rcases List.mem_append.1 hx with h | h
    · exact hc.mem x h
    · exact hg.mem x h
  · exact hc

theorem start_ok {l S : List Nat} {i : Nat} (hi : i ∈ l) (hs : S.contains i = false) : VOk l S ([i], i :: S) := by
  have := unseen_cons hs hi
  refine ⟨by simp; omega, by simp; omega, fun x hx => ?_⟩
  simp at hx
  subst hx
  exact hi

theorem foldl_ok {rows : List (List Bool)} {l S : List Nat} {i : Nat} {G : List Nat → Nat → List Nat × List Nat} : ∀ (t : List Nat) (c : List Nat × List Nat), (∀ j ∈ t, j ∈ l) → VOk l S c → (∀ S' j, j ∈ l → S'.contains j = false → S'.length + unseen l S' ≤ S.length + unseen l S → S.length + 1 ≤ S'.length → VOk l S' (G S' j)) → S.length + 1 ≤ c.2.length → VOk l S (t.foldl (vstep rows i G) c)
  | [], _, _, hc, _, _ => hc
  | j :: t, c, ht, hc, hG, h1 => by
    have hst := vstep_ok (rows := rows) (i := i) (G := G) hc (fun h => hG c.2 j (ht j (by simp)) h hc.sum h1)
    refine foldl_ok t _ (fun x hx => ht x (by simp [hx])) hst hG ?_
    have := hst.len
    have h2 := hc.len
    have : c.1.length ≤ (vstep rows i G c j).1.length := by unfold vstep; split <;> simp
    omega

theorem visit_ok (rows : List (List Bool)) (l : List Nat) : ∀ (f : Nat) (S : List Nat) (i : Nat), i ∈ l → S.contains i = false → VOk l S (visit rows l f S i)
  | 0, S, i, hi, hs => foldl_ok l _ (fun _ h => h) (start_ok hi hs) (fun S' j _ _ _ _ => ⟨by simp, by simp, by simp⟩) (by simp)
  | f + 1, S, i, hi, hs => foldl_ok l _ (fun _ h => h) (start_ok hi hs) (fun S' j hj hs' _ _ => visit_ok rows l f S' j hj hs') (by simp)
end Go.Proofs.Lg
