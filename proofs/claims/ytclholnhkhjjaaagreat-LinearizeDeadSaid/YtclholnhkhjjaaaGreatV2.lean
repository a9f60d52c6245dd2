/-
  Part V2 of this claim's proof. Joined by merge.py from the texts of wip/tpl.
-/
import Derived.Test.YtclholnhkhjjaaaGreatV1
import Derived.Test.YtclholnhkhjjaaaGreatS2
set_option linter.unusedVariables false
set_option linter.unusedSimpArgs false
set_option linter.unnecessarySimpa false
namespace Go.Proofs.Lg
open Go Go.RowKit Go.Shelf Go.Sort

theorem AppendSeqInt_any (sv : Value) (Bs : Nat) (zs : List Int) (hlen : zs.length ≤ 1000000) (w : World) (hc : w.cell? ⟨Bs, 0, none⟩ = some sv) (hI : SlAt w sv (ints zs)) :
    Calls Tryz.prog 152 #[.slice none 0 0, .func (.func 149) #[] #[.pointer (some ⟨Bs, 0, none⟩)]] w fun e W' => ∃ v, e = .returned v ∧ W'.ownsRow w.heap.size 3 1 v zs.length (ints zs) ∧ Below w.heap.size w W' :=
  callsIn_wide.1 (appendSeq_in Fence.wide 3 trivial trivial rfl (Nat.le_refl _) sv Bs zs hlen w (cell_lt hc) hc hI)

theorem ValuesInt_any (a : Option Addr) (len cap : Nat) (w : World) :
    Calls Tryz.prog 133 #[.slice a len cap] w fun e w' => e = .returned (.func (.func 149) #[] #[.pointer (some ⟨w.heap.size, 0, none⟩)]) ∧ w' = w.alloc (.cells #[.slice a len cap] 29) :=
  callsIn_wide.1 (values_in Fence.wide 1 trivial rfl a len cap w)

set_option maxHeartbeats 1000000 in
theorem CollectInt_any (sv : Value) (Bs : Nat) (zs : List Int) (hlen : zs.length ≤ 1000000) (w : World) (hc : w.cell? ⟨Bs, 0, none⟩ = some sv) (hI : SlAt w sv (ints zs)) :
    Calls Tryz.prog 147 #[.func (.func 149) #[] #[.pointer (some ⟨Bs, 0, none⟩)]] w fun e W' => ∃ v, e = .returned v ∧ W'.ownsRow w.heap.size 3 1 v zs.length (ints zs) ∧ Below w.heap.size w W' := by
  have HC := Lib.hid (AppendSeqInt_any sv Bs zs hlen w hc hI)
  clear hc hI
  go_enter Tryz.func147, Tryz.ntmps147
  go_wp2_with fail
  refine HC.out.mono ?_
  rintro e w1 ⟨v, rfl, hown, hB⟩
  have H := Lib.hid (And.intro hown hB)
  clear hown hB
  go_wp2
  go_ret
  exact ⟨_, rfl, H.out.1, H.out.2⟩

set_option maxHeartbeats 1000000 in
theorem SortedInt_any (sv : Value) (Bs : Nat) (zs : List Int) (hlen : zs.length ≤ 1000000) (w : World) (hc : w.cell? ⟨Bs, 0, none⟩ = some sv) (hI : SlAt w sv (ints zs)) :
    Calls Tryz.prog 132 #[.func (.func 149) #[] #[.pointer (some ⟨Bs, 0, none⟩)]] w fun e W' => ∃ v, e = .returned v ∧ W'.ownsRow w.heap.size 3 1 v zs.length (ints (zs.mergeSort fun x y => decide (x ≤ y))) ∧ Below w.heap.size w W' := by
  have HC := Lib.hid (CollectInt_any sv Bs zs hlen w hc hI)
  clear hc hI
  go_enter Tryz.func132, Tryz.ntmps132
  go_wp2_with fail
  refine HC.out.mono ?_
  rintro e W ⟨v, rfl, hrow, hB⟩
  rcases hrow.2 with ⟨rfl, hz⟩ | ⟨gb, cap, cur, rfl, hbase, hgb, r1, r2, r3, r4⟩
  · have hss : zs = [] := List.eq_nil_of_length_eq_zero hz
    have H := Lib.hid (And.intro hrow hB)
    have HS := Lib.hid (Tryz.slices_Sort_int_none none 0 W)
    subst hss
    clear hrow hB
    go_wp2_with fail
    refine HS.out.mono ?_
    rintro e w1 ⟨rfl, rfl⟩
    go_wp2
    go_ret
    exact ⟨_, rfl, by simpa using H.out.1, H.out.2⟩
  · have hH : Holds (Value.int .i64) W gb 0 zs.toArray := holds_of_blockI hgb (by simpa [ints] using r4)
    have hgl : gb < W.heap.size := (Array.getElem?_eq_some_iff.1 hgb).1
    have HS := Lib.hid (Tryz.slices_Sort_int gb 0 cap zs W hH hgl (by omega))
    have H := Lib.hid hB
    have HG := Lib.hid (And.intro hgb (And.intro r2 (And.intro r3 (And.intro hbase r1))))
    clear hrow hB hgb r2 r3 r4 hH r1 hbase
    go_wp2_with fail
    refine HS.out.mono ?_
    rintro e w1 ⟨rfl, n, os, rfl⟩
    go_wp2
    go_ret
    obtain ⟨hgb, r2, r3, hbase, r1⟩ := HG.out
    refine ⟨_, rfl, ?_, H.out.grown (grownBy_sortedI _) H.out.size (fun j hj => by cases hj; exact hbase)⟩
    exact ownsRow_sortedI (by simp) hbase hgb r1 r2 r3

/-- slices.Sorted(slices.Values(s)) leaves a slice of its own, in order. -/
def sortI (l : List Nat) : List Nat := l.mergeSort fun x y => decide (x ≤ y)
theorem sortI_length (l : List Nat) : (sortI l).length = l.length := by simp [sortI, List.length_mergeSort]
theorem nats_sortI (l : List Nat) : nats (sortI l) = (nats l).mergeSort fun x y => decide (x ≤ y) := by
  unfold nats sortI
  exact List.map_mergeSort (s := fun x y : Int => decide (x ≤ y)) (fun a _ b _ => by simp)
end Go.Proofs.Lg
