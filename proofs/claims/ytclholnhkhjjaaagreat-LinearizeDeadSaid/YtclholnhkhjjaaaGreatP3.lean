/-
  Part P3 of this claim's proof. Joined by merge.py from the texts of wip/tpl.
-/
import Derived.Test.YtclholnhkhjjaaaGreatP1
set_option linter.unusedVariables false
set_option linter.unusedSimpArgs false
set_option linter.unnecessarySimpa false
namespace Go.Proofs.Lg
open Go

def Gr.dim (g : Gr) : Nat := if g.check = 0 then g.lines.length else 0

theorem Gr.sq (g : Gr) : Sq g.dim g.reach := by
  unfold Gr.dim Gr.reach
  split
  · refine ⟨by simp, fun r hr => ?_⟩
    obtain ⟨i, _, rfl⟩ := List.mem_map.1 hr
    rw [fromRow_length, g.followers_length]
  · exact ⟨rfl, by simp⟩

theorem Gr.transR (g : Gr) : TransR g.dim g.reach := by
  unfold Gr.dim Gr.reach
  split
  · rename_i h
    have := Gr.followers_valid (Gr.check_ok h).2
    rw [g.followers_length] at this
    exact transR_rows g.followers g.lines.length g.followers_length this
  · intro i j k hi; omega

theorem livFrom_mem : ∀ (l : List Vtx) (k i : Nat), i ∈ livFrom k l ↔ k ≤ i ∧ ∃ x, l[i - k]? = some x ∧ x.living = true
  | [], k, i => by simp [livFrom]
  | x :: l, k, i => by
    have ih := livFrom_mem l (k + 1) i
    by_cases hi : i = k
    · subst hi
      by_cases hx : x.living = true
      · simp [livFrom, hx]
      · simp only [livFrom, hx, Bool.false_eq_true, if_false, ih]
        simp [hx]; omega
    · have e : k ≤ i → (x :: l)[i - k]? = l[i - (k + 1)]? := fun h => by
        rw [show i - k = (i - (k + 1)) + 1 by omega]; rfl
      by_cases hx : x.living = true
      · simp only [livFrom, hx, if_true, List.mem_cons, ih, hi, false_or]
        constructor
        · rintro ⟨h1, h2⟩; exact ⟨by omega, by rw [e (by omega)]; exact h2⟩
        · rintro ⟨h1, h2⟩; exact ⟨by omega, by rw [e h1] at h2; exact h2⟩
      · simp only [livFrom, hx, Bool.false_eq_true, if_false, ih]
        constructor
        · rintro ⟨h1, h2⟩; exact ⟨by omega, by rw [e (by omega)]; exact h2⟩
        · rintro ⟨h1, h2⟩; exact ⟨by omega, by rw [e h1] at h2; exact h2⟩

theorem livFrom_sorted : ∀ (l : List Vtx) (k : Nat), (livFrom k l).Pairwise (· < ·)
  | [], _ => List.Pairwise.nil
  | x :: l, k => by
    unfold livFrom
    split
    · exact List.Pairwise.cons (fun j hj => by have := ((livFrom_mem l (k + 1) j).1 hj).1; omega) (livFrom_sorted l (k + 1))
    · exact livFrom_sorted l (k + 1)

theorem Gr.living_lt (g : Gr) : ∀ i ∈ g.living, i < g.dim := by
  unfold Gr.living Gr.dim
  split
  · intro i hi
    obtain ⟨_, x, hx, _⟩ := (livFrom_mem _ _ _).1 hi
    have := (List.getElem?_eq_some_iff.1 hx).1
    omega
  · simp

theorem Gr.living_sorted (g : Gr) : g.living.Pairwise (· < ·) := by
  unfold Gr.living
  split
  · exact livFrom_sorted _ _
  · exact List.Pairwise.nil

theorem Gr.living_nd (g : Gr) : g.living.Nodup := g.living_sorted.imp fun h => Nat.ne_of_lt h

theorem Gr.lv (g : Gr) : Lv g.dim g.reach g.living := ⟨g.transR, g.living_lt, g.living_nd⟩

theorem Gr.living_len (g : Gr) : g.living.length ≤ g.lines.length := by
  unfold Gr.living
  split
  · have := livFrom_length g.lines 0; unfold livL; exact this
  · simp

theorem Gr.dim_le (g : Gr) : g.dim ≤ g.lines.length := by unfold Gr.dim; split <;> omega

/-- Before is what the table says. -/
theorem Gr.before_bef {g : Gr} (h : g.check = 0) {i j : Nat} (hi : i < g.lines.length) (hj : j < g.lines.length) : g.before i j = bef g.reach i j := by
  unfold Gr.before bef Gr.reach
  rw [if_pos h, rel_rows _ _ _ _ hi, rel_rows _ _ _ _ hj]
end Go.Proofs.Lg
