/-
  Part K4 of this claim's proof. Joined by merge.py from the texts of wip/tpl.
-/
import Derived.Test.YtclholnhkhjjaaaGreatK3
import Derived.Test.YtclholnhkhjjaaaGreatAbA
import Derived.Test.YtclholnhkhjjaaaGreatK7
import Derived.Test.YtclholnhkhjjaaaGreatV3
set_option linter.unusedVariables false
set_option linter.unusedSimpArgs false
set_option linter.unnecessarySimpa false
namespace Go.Proofs.Lg
open Go Go.RowKit

theorem info_Vertex' : ∃ i, Tryz.prog.info? 40 = some i ∧ i.size = 35 ∧ i.zero = some zVertex := by
  have h := info_Vertex
  cases hi : Tryz.prog.info? 40 with
  | none => rw [hi] at h; cases h
  | some i =>
    rw [hi] at h
    simp only [Option.map_some, Option.some.injEq, Prod.mk.injEq] at h
    exact ⟨i, rfl, h.2.1, h.1⟩

theorem zVertex_one : ∀ u ∈ (Builtin.zeroCells zVertex.cells 1).toList, u.oneCell' = true := by
  have h : (Builtin.zeroCells zVertex.cells 1).toList.all (fun u => u.oneCell') = true := by kernel_rfl
  exact List.all_eq_true.1 h

/-- What is left behind when one line has been taken out of a row of one's own. -/
def DelPost (w : World) (g n c d : Nat) (us : List Value) (e : Ending) (w' : World) : Prop :=
  e = .returned (.slice (some ⟨g, 0, none⟩) (n - 1) c) ∧ w.grownBy w' (some g) ∧ ∃ cur', w'.heap[g]? = some (.cells cur' 40 (0, 0)) ∧ cur'.size = c * 35 ∧ cur'.toList.take ((n - 1) * 35) = us.take (d * 35) ++ us.drop ((d + 1) * 35)

theorem del_post {w : World} {g n c d k : Nat} {cur : Array Value} {us zs : List Value} (hg : w.heap[g]? = some (.cells cur 40 (0, 0))) (hnc : n ≤ c) (hcs : cur.size = c * 35) (hus : cur.toList.take (n * 35) = us) (hd : d + 1 ≤ n) (hz : zs.length = 35) (hk : k = n - 1) :
    DelPost w g n c d us (.returned (.slice (some ⟨g, 0, none⟩) k c)) ((w.drew.setRow g (cur.toList.take (d * 35) ++ us.drop ((d + 1) * 35) ++ cur.toList.drop (d * 35 + (us.drop ((d + 1) * 35)).length)).toArray).setCells g ((n - 1) * 35) zs) := by
  subst hk
  have hn35 : n * 35 ≤ c * 35 := Nat.mul_le_mul_right _ hnc
  have hd35 : (d + 1) * 35 ≤ n * 35 := Nat.mul_le_mul_right _ hd
  have hul : us.length = n * 35 := by rw [← hus, List.length_take, Array.length_toList, hcs, Nat.min_eq_left hn35]
  have hR : (cur.toList.take (d * 35) ++ us.drop ((d + 1) * 35) ++ cur.toList.drop (d * 35 + (us.drop ((d + 1) * 35)).length)).length = c * 35 := by
    simp only [List.length_append, List.length_take, List.length_drop, Array.length_toList, hul, hcs]; omega
  have htk : cur.toList.take (d * 35) = us.take (d * 35) := by rw [← hus, List.take_take, Nat.min_eq_left (by omega)]
  have hl1 : (us.take (d * 35) ++ us.drop ((d + 1) * 35)).length = (n - 1) * 35 := by
    simp only [List.length_append, List.length_take, List.length_drop, hul]; omega
  have hT : (cur.toList.take (d * 35) ++ us.drop ((d + 1) * 35) ++ cur.toList.drop (d * 35 + (us.drop ((d + 1) * 35)).length)).take ((n - 1) * 35) = us.take (d * 35) ++ us.drop ((d + 1) * 35) := by
    rw [htk, List.take_append_of_le_length (by omega), ← hl1, List.take_length]
  generalize cur.toList.take (d * 35) ++ us.drop ((d + 1) * 35) ++ cur.toList.drop (d * 35 + (us.drop ((d + 1) * 35)).length) = R at hR hT
  have h1 := setRow_heap w.drew g cur R.toArray 40 (0, 0) hg
  have h2 := heap_setCells_own g 40 zs ((n - 1) * 35) _ _ h1 (by simp only [List.size_toArray]; omega)
  refine ⟨rfl, grownBy_trans' (grownBy_trans' (drew_grownBy w (some g)) (setRow_grownBy _ g _)) (setCells_grownBy g zs _ _), _, h2, ?_, ?_⟩
  · simp only [List.size_toArray, List.length_append, List.length_take, List.length_drop, hR, hz]; omega
  · rw [List.append_assoc]
    rw [List.take_append_of_le_length (by rw [List.length_take]; show (n - 1) * 35 ≤ min _ R.length; omega), List.take_take, Nat.min_self]
    exact hT

set_option maxRecDepth 100000 in
set_option maxHeartbeats 400000 in
theorem DeleteVertexs_in (us : List Value) (n g c d : Nat) (cur : Array Value) (w : World) (hg : w.heap[g]? = some (.cells cur 40 (0, 0))) (hnc : n ≤ c) (hcs : cur.size = c * 35) (hus : cur.toList.take (n * 35) = us) (hone : ∀ u ∈ us, u.oneCell' = true) (hd1 : d + 1 ≤ n) (hcd : ¬ c = d + 1) (hn : n ≤ 1000000) :
    Calls Tryz.prog 48 #[.slice (some ⟨g, 0, none⟩) n c, .int .i64 d, .int .i64 (d + 1 : Nat)] w fun e w' => DelPost w g n c d us e w' := by
  have HP := Lib.hid (fun (zs : List Value) (hz : zs.length = 35) (k : Nat) (hk : k = n - 1) => del_post (zs := zs) (k := k) hg hnc hcs hus (by omega : d + 1 ≤ n) hz hk)
  obtain ⟨i, hi1, hi2, hi3⟩ := info_Vertex'
  have hblk : ∀ R : Array Value, ((w.drew.setRow g R).heap[g]?) = some (.cells R 40 (0, 0)) := fun R => setRow_heap w.drew g cur R _ _ hg
  have HBK := Lib.hid hblk
  have HG := Lib.hid (And.intro hg (And.intro hcs (And.intro hus hone)))
  have HI := Lib.hid (And.intro hi1 (And.intro hi2 hi3))
  have hdc : d ≤ c := by omega
  have hd0 : (0 : Int) ≤ (d : Int) + 1 := by omega
  have hd2 : (d : Int) + 1 ≤ (n : Int) := by omega
  clear hg hcs hus hone hi1 hi2 hi3 hblk
  go_enter Tryz.func48, Tryz.ntmps48
  go_wp2_with (fail)
  refine wp_region_ord (fun _ => True) 99 [(0, true), (1, true), (2, true), (3, true), (4, true), (5, true), (6, false), (7, true)] (by kernel_rfl) (by kernel_rfl) trivial ?_
  have hne : Nonempty (Cls (fun _ : World => True)) := ⟨⟨w, trivial⟩⟩
  iterate 6 (refine wpOrd_pure rfl (fun _ _ _ _ h => h) (by rfl) (fun K hK => ?_); go_simp; refine hK _ ?_; clear hK K)
  refine wpOrd_eff rfl (by rfl) (fun K hK => ?_)
  have hsz : cur.toList.length = c * i.size := by rw [HI.out.2.1, Array.length_toList, HG.out.2.1]
  have hul : us.length = n * 35 := by
    rw [← HG.out.2.2.1, List.length_take, Array.length_toList, HG.out.2.1]
    exact Nat.min_eq_left (Nat.mul_le_mul_right _ hnc)
  have hcut : (us.drop ((d + 1) * 35)).length = (n - (d + 1)) * i.size := by
    rw [HI.out.2.1, List.length_drop, hul, ← Nat.sub_mul]
  refine wp_app_room _ _ 22 40 rfl i Tryz.underlying22 HI.out.1 g d c cur rfl HG.out.1 (by rw [HI.out.2.1]; exact HG.out.2.1) ⟨g, (d + 1) * 35, none⟩ (n - (d + 1)) (c - (d + 1)) (us.drop ((d + 1) * 35)) rfl hcut (fun j u hu => ?_) (fun u hu => HG.out.2.2.2 u (List.mem_of_mem_drop hu)) (by omega) ?_
  · rw [List.getElem?_drop, ← HG.out.2.2.1, List.getElem?_take] at hu
    split at hu
    · have hc := Go.Ab.cells_at (w := w) (t := 40) (us := cur.toList) (by simpa using HG.out.1) ((d + 1) * 35 + j)
      show w.cell? _ = _
      rw [Addr.add_mid, hc]; exact hu
    · cases hu
  refine hK _ _ (.inr trivial) ?_
  clear hK K hsz
  rw [HI.out.2.1] at hcut ⊢
  have hRl : (cur.toList.take (d * 35) ++ us.drop ((d + 1) * 35) ++ cur.toList.drop (d * 35 + (us.drop ((d + 1) * 35)).length)).length = c * 35 := by
    have h1 := HG.out.2.1
    have h2 : n * 35 ≤ c * 35 := Nat.mul_le_mul_right _ hnc
    have h3 : (d + 1) * 35 ≤ n * 35 := Nat.mul_le_mul_right _ hd1
    simp only [List.length_append, List.length_take, List.length_drop, Array.length_toList, hul, h1]; omega
  have hblk := HBK.out (cur.toList.take (d * 35) ++ us.drop ((d + 1) * 35) ++ cur.toList.drop (d * 35 + (us.drop ((d + 1) * 35)).length)).toArray
  have HPP := Lib.hid HP.out
  clear hcut hul
  generalize hw1 : w.drew.setRow g _ = w1 at HPP hblk
  generalize hRR : (cur.toList.take (d * 35) ++ us.drop ((d + 1) * 35) ++ cur.toList.drop (d * 35 + (us.drop ((d + 1) * 35)).length)) = R at hRl hblk
  have HW := Lib.hid hw1
  clear hw1 hRR
  refine wpOrd_pure rfl (fun _ _ _ _ h => h) (by rfl) (fun K hK => ?_); go_simp; refine hK _ ?_; clear hK K
  refine wpOrd_nil ?_
  have hv : ∀ w, (zeroValue 40).run Tryz.prog w = .ok zVertex w := fun w => by simp [zeroValue, typeInfo, HI.out.1, HI.out.2.2]
  have hq : n - (n - 1) = 1 := by omega
  have hqn : d + (n - (d + 1)) = n - 1 := by omega
  have hzl : (Builtin.zeroCells zVertex.cells 1).toList.length = 35 := by simp [zeroCells_zeros, Go.Ab.zeros, zVertex, Value.cells]
  have hcl : ∀ j, j < (Builtin.zeroCells zVertex.cells 1).toList.length → (n - 1) * 35 + j < R.length := fun j hj => by
    rw [hRl]
    have h2 : n * 35 ≤ c * 35 := Nat.mul_le_mul_right _ hnc
    omega
  have hclear := run_clear_cells (P := Tryz.prog) (n := 1) w1 22 40 0 zVertex Tryz.underlying22 hv zVertex_one g ((n - 1) * 35) (c - (n - 1)) (by omega)
    (fun j hj => by rw [cell_of_heap hblk, List.getElem?_toArray, List.getElem?_eq_getElem (hcl j hj)]; rfl) (fun j hj => frozen_of_heap hblk)
  clear hcl hRl hblk
  generalize (Builtin.zeroCells zVertex.cells 1).toList = zs at hclear hzl
  have HZ := Lib.hid hzl
  clear hzl
  go_wp2_with (fail)
  go_ret
  first | exact HPP.out _ HZ.out _ rfl | exact HPP.out _ HZ.out _ hqn
set_option maxRecDepth 100000 in
set_option maxHeartbeats 400000 in
theorem DeleteVertexs_end (us : List Value) (g d : Nat) (cur : Array Value) (w : World) (hg : w.heap[g]? = some (.cells cur 40 (0, 0))) (hcs : cur.size = (d + 1) * 35) (hus : cur.toList.take ((d + 1) * 35) = us) (hn : d + 1 ≤ 1000000) :
    Calls Tryz.prog 48 #[.slice (some ⟨g, 0, none⟩) (d + 1) (d + 1), .int .i64 d, .int .i64 (d + 1 : Nat)] w fun e w' => DelPost w g (d + 1) (d + 1) d us e w' := by
  have hul : us.length = (d + 1) * 35 := by rw [← hus, List.length_take, Array.length_toList, hcs, Nat.min_self]
  have hdr : us.drop ((d + 1) * 35) = [] := List.drop_eq_nil_of_le (by omega)
  have HP : Hid (∀ (zs : List Value), zs.length = 35 → DelPost w g (d + 1) (d + 1) d us (.returned (.slice (some ⟨g, 0, none⟩) d (d + 1))) ((w.drew.setRow g (cur.toList.take (d * 35) ++ [] ++ cur.toList.drop (d * 35 + ([] : List Value).length)).toArray).setCells g (d * 35) zs)) := by
    intro zs hz
    have := del_post (zs := zs) (k := d) hg (Nat.le_refl _) hcs hus (Nat.le_refl _) hz rfl
    rw [hdr] at this
    exact this
  obtain ⟨i, hi1, hi2, hi3⟩ := info_Vertex'
  have hblk : ∀ R : Array Value, ((w.drew.setRow g R).heap[g]?) = some (.cells R 40 (0, 0)) := fun R => setRow_heap w.drew g cur R _ _ hg
  have HBK := Lib.hid hblk
  have HG := Lib.hid (And.intro hg hcs)
  have HI := Lib.hid (And.intro hi1 (And.intro hi2 hi3))
  have hdd : (d : Int) ≤ (d : Int) + 1 := by omega
  have hd0 : (0 : Int) ≤ (d : Int) + 1 := by omega
  clear hg hcs hus hi1 hi2 hi3 hblk hul hdr
  go_enter Tryz.func48, Tryz.ntmps48
  go_wp2_with (fail)
  refine wp_region_ord (fun _ => True) 99 [(0, true), (1, true), (2, true), (3, true), (4, true), (5, true), (6, false), (7, true)] (by kernel_rfl) (by kernel_rfl) trivial ?_
  have hne : Nonempty (Cls (fun _ : World => True)) := ⟨⟨w, trivial⟩⟩
  iterate 6 (refine wpOrd_pure rfl (fun _ _ _ _ h => h) (by rfl) (fun K hK => ?_); go_simp; refine hK _ ?_; clear hK K)
  refine wpOrd_eff rfl (by rfl) (fun K hK => ?_)
  refine wp_app_room _ _ 22 40 rfl i Tryz.underlying22 HI.out.1 g d (d + 1) cur rfl HG.out.1 (by rw [HI.out.2.1]; exact HG.out.2) ⟨g, 0, none⟩ 0 0 [] rfl (by simp) (fun j u hu => by simp at hu) (fun u hu => by simp at hu) (by omega) ?_
  refine hK _ _ (.inr trivial) ?_
  clear hK K
  rw [HI.out.2.1]
  have hRl : (cur.toList.take (d * 35) ++ [] ++ cur.toList.drop (d * 35 + ([] : List Value).length)).length = (d + 1) * 35 := by
    have h1 := HG.out.2
    simp only [List.length_append, List.length_take, List.length_drop, Array.length_toList, h1, List.length_nil]; omega
  have hblk := HBK.out (cur.toList.take (d * 35) ++ [] ++ cur.toList.drop (d * 35 + ([] : List Value).length)).toArray
  have HPP := Lib.hid HP.out
  generalize hw1 : w.drew.setRow g _ = w1 at HPP hblk
  generalize hRR : (cur.toList.take (d * 35) ++ [] ++ cur.toList.drop (d * 35 + ([] : List Value).length)) = R at hRl hblk
  have HW := Lib.hid hw1
  clear hw1 hRR
  refine wpOrd_pure rfl (fun _ _ _ _ h => h) (by rfl) (fun K hK => ?_); go_simp; refine hK _ ?_; clear hK K
  refine wpOrd_nil ?_
  have hv : ∀ w, (zeroValue 40).run Tryz.prog w = .ok zVertex w := fun w => by simp [zeroValue, typeInfo, HI.out.1, HI.out.2.2]
  have hq : d + 1 - d = 1 := by omega
  have hzl : (Builtin.zeroCells zVertex.cells 1).toList.length = 35 := by simp [zeroCells_zeros, Go.Ab.zeros, zVertex, Value.cells]
  have hcl : ∀ j, j < (Builtin.zeroCells zVertex.cells 1).toList.length → d * 35 + j < R.length := fun j hj => by
    rw [hRl]
    omega
  have hclear := run_clear_cells (P := Tryz.prog) (n := 1) w1 22 40 0 zVertex Tryz.underlying22 hv zVertex_one g (d * 35) 1 (by omega)
    (fun j hj => by rw [cell_of_heap hblk, List.getElem?_toArray, List.getElem?_eq_getElem (hcl j hj)]; rfl) (fun j hj => frozen_of_heap hblk)
  clear hcl hRl hblk
  generalize (Builtin.zeroCells zVertex.cells 1).toList = zs at hclear hzl
  have HZ := Lib.hid hzl
  clear hzl
  go_wp2_with (fail)
  go_ret
  exact HPP.out _ HZ.out

theorem DeleteVertexs_any (us : List Value) (n g c d : Nat) (cur : Array Value) (w : World) (hg : w.heap[g]? = some (.cells cur 40 (0, 0))) (hnc : n ≤ c) (hcs : cur.size = c * 35) (hus : cur.toList.take (n * 35) = us) (hone : ∀ u ∈ us, u.oneCell' = true) (hd1 : d + 1 ≤ n) (hn : n ≤ 1000000) :
    Calls Tryz.prog 48 #[.slice (some ⟨g, 0, none⟩) n c, .int .i64 d, .int .i64 (d + 1 : Nat)] w fun e w' => DelPost w g n c d us e w' := by
  by_cases hcd : c = d + 1
  · subst hcd
    obtain rfl : n = d + 1 := by omega
    exact DeleteVertexs_end us g d cur w hg hcs hus hn
  · exact DeleteVertexs_in us n g c d cur w hg hnc hcs hus hone hd1 hcd hn
end Go.Proofs.Lg
