/-
  Part Z0 of this claim's proof. Joined by merge.py from the texts of wip/tpl.
-/
import Derived.Test.YtclholnhkhjjaaaGreatOrd
set_option linter.unusedVariables false
set_option linter.unusedSimpArgs false
set_option linter.unnecessarySimpa false
namespace Go.Proofs.Lg
open Go Go.RowKit
section
variable {P : Program} {ops : Array Oper} {Q : Exit → Act → World → Prop} {C : World → Prop}

theorem wpOrd_pure_g {ex i : Nat} {o : Oper} {rest : List (Nat × Bool)} {a : Act} {w : World} (hi : ops[i]? = some o) (hQ : ∀ v c a w, Q (.panic c) (a.put o.dst v) w → Q (.panic c) a w) (hg : Region.wanted o (yielded ops a.tmps) = true)
    (h : ∀ K : Act → Prop, (∀ a, wpOrd P ops Q C ex rest a w → K a) → ∃ v, (∀ p : Cls C, (execOp a.eval o).run P p.w = .ok (.value v) p.w) ∧ K (a.put o.dst v)) : wpOrd P ops Q C ex ((i, true) :: rest) a w := by
  obtain ⟨v, h1, h2⟩ := h _ (fun _ h => h)
  exact ⟨o, hi, hQ, v, .inl ⟨hg, fun w' hw' => h1 ⟨w', hw'⟩⟩, h2⟩
theorem wpOrd_skip {ex i : Nat} {o : Oper} {rest : List (Nat × Bool)} {a : Act} {w : World} (hi : ops[i]? = some o) (hQ : ∀ v c a w, Q (.panic c) (a.put o.dst v) w → Q (.panic c) a w) (hg : Region.wanted o (yielded ops a.tmps) = false)
    (h : wpOrd P ops Q C ex rest (a.put o.dst undef) w) : wpOrd P ops Q C ex ((i, true) :: rest) a w :=
  ⟨o, hi, hQ, undef, .inr ⟨hg, rfl⟩, h⟩
theorem wpOrd_eff_g {ex i : Nat} {o : Oper} {rest : List (Nat × Bool)} {a : Act} {w : World} (hi : ops[i]? = some o) (hg : Region.wanted o (yielded ops a.tmps) = true)
    (h : ∀ K : Act → World → Prop, (∀ a' w', (i = ex ∨ C w') → wpOrd P ops Q C ex rest a' w' → K a' w') → o.wp P a w K Q) : wpOrd P ops Q C ex ((i, false) :: rest) a w := by
  show wpOp P ops Q i _ a w
  unfold wpOp
  simp only [hi]
  rw [if_pos hg]
  exact .inl (h _ fun a' w' h1 h2 => ⟨h1, h2⟩)
theorem wpOrd_eff_skip {ex i : Nat} {o : Oper} {rest : List (Nat × Bool)} {a : Act} {w : World} (hi : ops[i]? = some o) (hg : Region.wanted o (yielded ops a.tmps) = false) (hC : C w)
    (h : wpOrd P ops Q C ex rest (a.put o.dst undef) w) : wpOrd P ops Q C ex ((i, false) :: rest) a w := by
  show wpOp P ops Q i _ a w
  unfold wpOp
  simp only [hi]
  rw [if_neg (by rw [hg]; simp)]
  exact ⟨.inr hC, h⟩
end
end Go.Proofs.Lg
