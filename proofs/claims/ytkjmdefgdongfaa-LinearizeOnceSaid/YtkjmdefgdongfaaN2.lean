/-
  LinearizeOnce in plain words; a drawn region with guards, walked in one order.
-/
import Derived.Test.YtkjmdefgdongfaaP5
import Derived.Test.YtkjmdefgdongfaaN1
namespace Go.Proofs.Lg
open Go Go.RowKit

theorem Gr.once_contains {g : Gr} (h : g.check = 0) {i : Nat} (hi : i < g.lines.length) : (nats (seqL g.reach g.living)).contains (i : Int) = g.liv i := by
  rw [Bool.eq_iff_iff, List.contains_iff_mem]
  have h1 : (i : Int) ∈ nats (seqL g.reach g.living) ↔ i ∈ seqL g.reach g.living := by
    unfold nats
    rw [List.mem_map]
    constructor
    · rintro ⟨j, hj, e⟩
      have : j = i := Int.ofNat.inj e
      rw [← this]; exact hj
    · intro hj; exact ⟨i, hj, rfl⟩
  rw [h1, (seqL_perm g.lv).mem_iff, Gr.mem_living h]
  simp [hi]

theorem compact_nodup (zs : List Int) (h : zs.Nodup) : Lib.compact zs = zs := by
  refine Lib.compact_all zs fun j hj => ?_
  cases j with
  | zero => exact Lib.keeps_lt_one _ 0 (by omega)
  | succ j =>
    have hne : zs[j]'(by omega) ≠ zs[j + 1] := fun e => by
      have := List.pairwise_iff_getElem.1 h j (j + 1) (by omega) hj (by omega)
      exact this e
    unfold Lib.keeps
    simp [hj, show j < zs.length by omega]
    exact fun e => hne e.symm

theorem foldl_max_lt (n : Int) : ∀ (zs : List Int) (a : Int), a < n → (∀ x ∈ zs, x < n) → zs.foldl max a < n
  | [], _, h, _ => h
  | x :: zs, a, h, hx => foldl_max_lt n zs _ (by have := hx x List.mem_cons_self; omega) fun y hy => hx y (List.mem_cons_of_mem _ hy)
theorem maxOf_lt (n : Int) (zs : List Int) (hne : zs ≠ []) (h : ∀ x ∈ zs, x < n) : Lib.maxOf zs < n := by
  unfold Lib.maxOf
  refine foldl_max_lt n zs _ ?_ h
  cases zs with
  | nil => exact absurd rfl hne
  | cons x zs => exact h x List.mem_cons_self

/-- The lines of the sequence in ascending order. -/
def sorted (l : List Nat) : List Int := (nats l).mergeSort fun x y => decide (x ≤ y)
theorem sorted_perm (l : List Nat) : (sorted l).Perm (nats l) := List.mergeSort_perm _ _
theorem sorted_length (l : List Nat) : (sorted l).length = l.length := by rw [(sorted_perm l).length_eq, nats_length]
theorem nats_nodup {l : List Nat} (h : l.Nodup) : (nats l).Nodup := by
  unfold nats List.Nodup
  rw [List.pairwise_map]
  exact List.Pairwise.imp (fun hne e => hne (Int.ofNat.inj e)) h
theorem sorted_compact {l : List Nat} (h : l.Nodup) : Lib.compact (sorted l) = sorted l := compact_nodup _ ((sorted_perm l).nodup_iff.2 (nats_nodup h))
theorem sorted_nonneg (l : List Nat) : ∀ x ∈ sorted l, 0 ≤ x := by
  intro x hx
  obtain ⟨i, _, rfl⟩ := List.mem_map.1 ((sorted_perm l).mem_iff.1 hx)
  exact Int.natCast_nonneg _

section
variable {P : Program} {ops : Array Oper} {Q : Exit → Act → World → Prop} {C : World → Prop}
theorem wpOrd_pure_g {ex i : Nat} {o : Oper} {rest : List (Nat × Bool)} {a : Act} {w : World} (hi : ops[i]? = some o) (hQ : ∀ v c a w, Q (.panic c) (a.put o.dst v) w → Q (.panic c) a w) (hg : Region.wanted o (yielded ops a.tmps) = true)
    (h : ∀ K : Act → Prop, (∀ a, wpOrd P ops Q C ex rest a w → K a) → ∃ v, (∀ p : Cls C, (execOp a.eval o).run P p.w = .ok (.value v) p.w) ∧ K (a.put o.dst v)) : wpOrd P ops Q C ex ((i, true) :: rest) a w := by
  obtain ⟨v, h1, h2⟩ := h _ (fun _ h => h)
  exact ⟨o, hi, hQ, v, .inl ⟨hg, fun w' hw' => h1 ⟨w', hw'⟩⟩, h2⟩
theorem wpOrd_skip {ex i : Nat} {o : Oper} {rest : List (Nat × Bool)} {a : Act} {w : World} (hi : ops[i]? = some o) (hQ : ∀ v c a w, Q (.panic c) (a.put o.dst v) w → Q (.panic c) a w) (hg : Region.wanted o (yielded ops a.tmps) = false)
    (h : wpOrd P ops Q C ex rest (a.put o.dst undef) w) : wpOrd P ops Q C ex ((i, true) :: rest) a w :=
  ⟨o, hi, hQ, undef, .inr ⟨hg, rfl⟩, h⟩
theorem wpOrd_eff_g {ex i : Nat} {o : Oper} {rest : List (Nat × Bool)} {a : Act} {w : World} (hi : ops[i]? = some o) (hg : Region.wanted o (yielded ops a.tmps) = true)
    (h : ∀ K : Act → World → Prop, (∀ a' w', (i = ex ∨ C w') → wpOrd P ops Q C ex rest a' w' → K a' w') → o.wp P a w K Q) : wpOrd P ops Q C ex ((i, false) :: rest) a w := by
  show wpOp P ops Q i _ a w
  unfold wpOp
  simp only [hi]
  rw [if_pos hg]
  exact .inl (h _ fun a' w' h1 h2 => ⟨h1, h2⟩)
theorem wpOrd_eff_skip {ex i : Nat} {o : Oper} {rest : List (Nat × Bool)} {a : Act} {w : World} (hi : ops[i]? = some o) (hg : Region.wanted o (yielded ops a.tmps) = false) (hC : C w)
    (h : wpOrd P ops Q C ex rest (a.put o.dst undef) w) : wpOrd P ops Q C ex ((i, false) :: rest) a w := by
  show wpOp P ops Q i _ a w
  unfold wpOp
  simp only [hi]
  rw [if_neg (by rw [hg]; simp)]
  exact ⟨.inr hC, h⟩
end
end Go.Proofs.Lg
