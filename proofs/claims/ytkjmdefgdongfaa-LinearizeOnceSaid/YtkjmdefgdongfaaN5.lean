/-
  slices.Compact at ints without equal neighbours writes nothing.
-/
import Derived.Test.YtkjmdefgdongfaaN2
namespace Go.Proofs.Lg
open Go Go.RowKit

set_option maxRecDepth 100000 in
set_option maxHeartbeats 2000000 in
theorem CompactInts_kept (l : List Int) (v : Value) (w : World) (h : SlAt w v (ints l)) (hl : l.length ≤ 10000000) (hc : ∀ j, j + 1 < l.length → l.getD (j + 1) 0 ≠ l.getD j 0) :
    Calls Try.prog 23 #[v] w fun e w' => e = .returned v ∧ Below w.heap.size w w' := by
  by_cases h2 : l.length < 2
  · obtain ⟨a, c, rfl, _⟩ := h
    rw [ints_length]
    have hd : ((l.length : Int) < 2) := by omega
    go_enter Try.func23, Try.ntmps23
    go_wp2
    go_ret
    exact ⟨rfl, Below.refl _ _⟩
  · obtain ⟨b, off, c, rfl, hcell⟩ := h.cellsI (by intro e; subst e; simp at h2)
    have hd : ¬ ((l.length : Int) < 2) := by omega
    have HC := Lib.hid (And.intro hc hcell)
    clear hc hcell h
    go_enter Try.func23, Try.ntmps23
    go_wp2
    go_loopg [3] (l.length + 1) (fun gk i wr => ∃ k : Nat, i = .int .i64 k ∧ 1 ≤ k ∧ k ≤ l.length ∧ gk + k = l.length + 2 ∧ Keep w wr)
    case atStart => exact ⟨1, rfl, Nat.le_refl _, by omega, by omega, Keep.refl _⟩
    case round =>
      obtain ⟨k, rfl, hk1, hk, hgk, hK⟩ := hrel
      by_cases hlt : k < l.length
      · have c1 := below_cell hK (HC.out.2 k hlt)
        have c2 := below_cell hK (HC.out.2 (k - 1) (by omega))
        have c2' : wr.cell? ⟨b, off + ((k : Int) - 1).toNat, none⟩ = some (.int .i64 (l.getD (k - 1) 0)) := by rw [show ((k : Int) - 1).toNat = k - 1 by omega]; exact c2
        have hxn := HC.out.1 (k - 1) (by omega)
        rw [show k - 1 + 1 = k by omega] at hxn
        generalize l.getD k 0 = x at *
        generalize l.getD (k - 1) 0 = y at *
        have hxy : (x == y) = false := by simp [hxn]
        have hk2 : (0 : Int) ≤ (k : Int) - 1 := by omega
        have hk3 : (k : Int) - 1 < l.length := by omega
        have d1 : ∀ p : Cls (Keep wr), p.w.cell? ⟨b, off + k, none⟩ = some (.int .i64 x) := fun p => below_cell p.h c1
        have d2 : ∀ p : Cls (Keep wr), p.w.cell? ⟨b, off + ((k : Int) - 1).toNat, none⟩ = some (.int .i64 y) := fun p => below_cell p.h c2'
        have d3 : ∀ p : Cls (Keep wr), p.w.cell? ⟨b, off + (k - 1), none⟩ = some (.int .i64 y) := fun p => below_cell p.h c2
        have hne : Nonempty (Cls (Keep wr)) := ⟨⟨wr, Keep.refl wr⟩⟩
        have HK := Lib.hid hK
        clear hK c1 c2 c2'
        go_wp2
        refine wp_region_cls (Keep wr) (by kernel_rfl) (by kernel_rfl) (Keep.drew wr) ?_
        repeat (go_big_quiet_step (fail))
        refine wpQuiet_nil ?_
        rintro w1 ⟨⟨_, hw1⟩, rfl⟩
        have HK1 : Hid (Keep w w1) := Keep.trans HK.out hw1
        clear hw1 d1 d2 d3 hne
        go_wp2
        go_roundg (gk - 1)
        case measure => omega
        case rel => exact ⟨k + 1, by go_num, by omega, by omega, by omega, HK1.out⟩
      · clear hgk
        go_wp2
        go_ret
        exact ⟨rfl, hK⟩

theorem sorted_step {l : List Nat} (h : l.Nodup) : ∀ j, j + 1 < (sorted l).length → (sorted l).getD (j + 1) 0 ≠ (sorted l).getD j 0 := by
  intro j hj
  have hn : (sorted l).Nodup := (sorted_perm l).nodup_iff.2 (nats_nodup h)
  have hj' : j < (sorted l).length := by omega
  simp only [List.getD, List.getElem?_eq_getElem hj, List.getElem?_eq_getElem hj', Option.getD_some]
  intro e
  have := (List.pairwise_iff_getElem.1 hn) j (j + 1) hj' hj (by omega)
  exact this e.symm
end Go.Proofs.Lg
