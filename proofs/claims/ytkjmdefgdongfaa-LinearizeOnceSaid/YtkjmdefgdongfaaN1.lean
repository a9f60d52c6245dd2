/-
  Contracts of slices.Equal, Contains, Max, Sort and Compact at ints, as LinearizeOnce uses them.
-/
import Derived.Lib.SlicesCompact
import Derived.Test.YtkjmdefgdongfaaL4
import Derived.Test.YtkjmdefgdongfaaV3
namespace Go.Proofs.Lg
open Go Go.RowKit Go.Shelf Go.Sort

theorem below_drewN {w : World} (q : Nat) : Below w.heap.size w (w.drewN q) := bdrewN (Below.refl _ _) q

theorem SlAt.cellsI {w : World} {v : Value} {l : List Int} (h : SlAt w v (ints l)) (hne : l ≠ []) : ∃ b off c, v = .slice (some ⟨b, off, none⟩) l.length c ∧ ∀ j, j < l.length → w.cell? ⟨b, off + j, none⟩ = some (.int .i64 (l.getD j 0)) := by
  obtain ⟨a, c, rfl, hc⟩ := h.formI
  obtain ⟨b, off, rfl, _⟩ := hc 0 (l.getD 0 0) (by cases l with | nil => exact absurd rfl hne | cons x l => rfl)
  refine ⟨b, off, c, rfl, fun j hj => ?_⟩
  obtain ⟨b', off', hab, h1⟩ := hc j (l.getD j 0) (by rw [List.getD_eq_getElem?_getD, List.getElem?_eq_getElem hj]; rfl)
  obtain ⟨rfl, rfl⟩ : b = b' ∧ off = off' := by simpa using hab
  exact h1

theorem EqualInts_same (l : List Int) (va vb : Value) (w : World) (ha : SlAt w va (ints l)) (hb : SlAt w vb (ints l)) (hl : l.length ≤ 10000000) :
    Calls Try.prog 20 #[va, vb] w fun e w' => e = .returned (.bool true) ∧ Below w.heap.size w w' := by
  by_cases hne : l = []
  · subst hne
    obtain ⟨a, c, rfl, _⟩ := ha.formI
    obtain ⟨b, d, rfl, _⟩ := hb.formI
    refine (Try.slices_Equal_int_empty a b c 0 d w (by decide)).mono ?_
    rintro e w' ⟨rfl, rfl⟩
    exact ⟨rfl, Below.refl _ _⟩
  · obtain ⟨b1, o1, c1, rfl, h1⟩ := ha.cellsI hne
    obtain ⟨b2, o2, c2, rfl, h2⟩ := hb.cellsI hne
    refine (Try.slices_Equal_int b1 o1 l.length c1 b2 o2 l.length c2 l l w (Nat.le_refl _) (Nat.le_refl _) (by omega) (by omega) h1 h2).mono ?_
    rintro e w' ⟨rfl, q, rfl⟩
    exact ⟨by simp, below_drewN q⟩

theorem ContainsInts_any (l : List Int) (v : Value) (x : Int) (w : World) (h : SlAt w v (ints l)) (hl : l.length ≤ 10000000) :
    Calls Try.prog 21 #[v, .int .i64 x] w fun e w' => e = .returned (.bool (l.contains x)) ∧ Below w.heap.size w w' := by
  by_cases hne : l = []
  · subst hne
    obtain ⟨a, c, rfl, _⟩ := h.formI
    refine (Try.slices_Contains_int_empty a c x w).mono ?_
    rintro e w' ⟨rfl, rfl⟩
    exact ⟨rfl, Below.refl _ _⟩
  · obtain ⟨b1, o1, c1, rfl, h1⟩ := h.cellsI hne
    refine (Try.slices_Contains_int b1 o1 l.length c1 l x w (Nat.le_refl _) (by omega) h1).mono ?_
    rintro e w' ⟨rfl, rfl⟩
    exact ⟨by rw [List.take_length], Below.refl _ _⟩

theorem MaxInts_any (l : List Int) (v : Value) (w : World) (h : SlAt w v (ints l)) (hl : l.length ≤ 10000000) (hne : l ≠ []) :
    Calls Try.prog 24 #[v] w fun e w' => e = .returned (.int .i64 (Lib.maxOf l)) ∧ Below w.heap.size w w' := by
  obtain ⟨b1, o1, c1, rfl, h1⟩ := h.cellsI hne
  refine (Try.slices_Max_int b1 o1 l.length c1 l w (List.length_pos_iff.2 hne) (Nat.le_refl _) (by omega) h1).mono ?_
  rintro e w' ⟨rfl, rfl⟩
  exact ⟨by rw [List.take_length], Below.refl _ _⟩

theorem SortInts_own (l : List Int) (v : Value) (base : Nat) (w : World) (h : w.ownsRow base 3 1 v l.length (ints l)) (hl : l.length ≤ 10000000) :
    Calls Try.prog 22 #[v] w fun e w' => e = .returned (.tuple #[]) ∧ w'.ownsRow base 3 1 v l.length (ints (l.mergeSort fun x y => decide (x ≤ y))) ∧ w.grownBy w' v.ownBlock := by
  have h0 := h
  rcases h.2 with ⟨rfl, h1⟩ | ⟨g, cap, cur, rfl, hb, hg, h1, h3, h4, h5⟩
  · have hn : l = [] := List.eq_nil_of_length_eq_zero h1
    subst hn
    refine (Try.slices_Sort_int_none none 0 w).mono ?_
    rintro e w' ⟨rfl, rfl⟩
    exact ⟨rfl, by simpa using h0, ⟨rfl, rfl, rfl, Nat.le_refl _, fun _ _ _ => rfl⟩⟩
  · have hH : Holds (Value.int .i64) w g 0 l.toArray := holds_of_blockI hg (by simpa [ints] using h5)
    have hgl : g < w.heap.size := (Array.getElem?_eq_some_iff.1 hg).1
    refine (Try.slices_Sort_int g 0 cap l w hH hgl (by omega)).mono ?_
    rintro e w' ⟨rfl, n, os, rfl⟩
    exact ⟨rfl, ownsRow_sortedI (by simp) hb hg h1 h3 h4, grownBy_sortedI _⟩

/-- Where no two neighbours are equal, nothing is struck. -/
theorem CompactInts_own (l : List Int) (v : Value) (base : Nat) (w : World) (h : w.ownsRow base 3 1 v l.length (ints l)) (hl : l.length ≤ 10000000) (hc : Lib.compact l = l) :
    Calls Try.prog 23 #[v] w fun e w' => e = .returned v ∧ w'.ownsRow base 3 1 v l.length (ints l) ∧ w.grownBy w' v.ownBlock := by
  have h0 := h
  rcases h.2 with ⟨rfl, h1⟩ | ⟨g, cap, cur, rfl, hb, hg, h1, h3, h4, h5⟩
  · have hn : l = [] := List.eq_nil_of_length_eq_zero h1
    subst hn
    refine (Try.slices_Compact_int_empty none 0 w).mono ?_
    rintro e w' ⟨rfl, rfl⟩
    exact ⟨rfl, by simpa using h0, ⟨rfl, rfl, rfl, Nat.le_refl _, fun _ _ _ => rfl⟩⟩
  · have hH : Holds (Value.int .i64) w g 0 l.toArray := holds_of_blockI hg (by simpa [ints] using h5)
    refine (Try.slices_Compact_int g 0 cap l w hH (by omega) h1).mono ?_
    rintro e w' ⟨rfl, q, hw⟩
    rw [hc] at hw ⊢
    have e1 : w' = Sort.grow (putRow (Value.int .i64) (Sort.ahead w q) g 0 (l ++ List.replicate (l.length - l.length) 0).toArray) #[] := by rw [Sort.grow_empty]; exact hw
    have e2 : l ++ List.replicate (l.length - l.length) 0 = l := by simp
    rw [e2] at e1
    refine ⟨rfl, ?_, by rw [e1]; exact grownBy_sortedI _⟩
    rw [e1]
    exact ownsRow_sortedI rfl hb hg h1 h3 h4
end Go.Proofs.Lg
