/-
  Part A0 of this claim's proof. Joined by merge.py from the texts of wip/tpl.
-/
import Derived.KernelRfl
import Derived.Test.YtclholnhkhjjaaaGreatQ3
set_option linter.unusedVariables false
set_option linter.unusedSimpArgs false
set_option linter.unnecessarySimpa false
namespace Go.Proofs.Lg
open Go Go.RowKit

def awT : Nat → ByteArray
  | 0 => { data := #[97] }
  | 1 => { data := #[98] }
  | 2 => { data := #[120] }
  | 3 => { data := #[121] }
  | _ => { data := #[122] }
def awV (k : Nat) : Vtx := ⟨List.replicate 32 0, k, awT k, true⟩
def awLines : List Vtx := (List.range 5).map awV
def awEdges : List (Int × Int) := [(-1, 0), (0, 1), (0, 2), (0, 3), (1, -1), (2, 1), (3, 4), (4, 1)]
def awG : Gr := ⟨awLines, awEdges⟩
def awRegs : List Reg := [⟨false, [0], []⟩, ⟨true, [], [[2], [3, 4]]⟩, ⟨false, [1], []⟩]

theorem awG_check : awG.check = 0 := by kernel_rfl
theorem awG_reach : awG.reach = [[false, true, true, true, true], [false, false, false, false, false], [false, true, false, false, false], [false, true, false, false, true], [false, true, false, false, false]] := by kernel_rfl
theorem awG_living : awG.living = [0, 1, 2, 3, 4] := by kernel_rfl
theorem awG_in : inL awG.reach awG.living awG.living = [0, 1] := by kernel_rfl
theorem awG_out : outL awG.reach awG.living awG.living = [2, 3, 4] := by kernel_rfl
theorem awG_bef : bef awG.reach 1 0 = false := by kernel_rfl
theorem awG_settled : sortB awG.reach (inL awG.reach awG.living awG.living) = [0, 1] := by
  rw [awG_in]
  unfold sortB
  exact List.mergeSort_of_pairwise (List.Pairwise.cons (by simp [awG_bef]) (List.Pairwise.cons (by simp) List.Pairwise.nil))

theorem sortI_sorted {l : List Nat} (h : l.Pairwise (· ≤ ·)) : sortI l = l := List.mergeSort_of_pairwise (h.imp fun h => decide_eq_true h)
theorem aw_arr1 : arrL awG.reach [2] = [2] := by unfold arrL; rw [sortI_sorted (by simp)]; kernel_rfl
theorem aw_arr2 : arrL awG.reach [3, 4] = [3, 4] := by unfold arrL; rw [sortI_sorted (by simp)]; kernel_rfl
theorem aw_v1 : visit awG.reach [2, 3, 4] 3 [] 2 = ([2], [2]) := by kernel_rfl
theorem aw_v2 : visit awG.reach [2, 3, 4] 3 [2] 3 = ([3, 4], [4, 3, 2]) := by kernel_rfl
theorem aw_classes : classesL awG.reach [2, 3, 4] = [[2], [3, 4]] := by
  unfold classesL classesS
  have e1 : cstep awG.reach [2, 3, 4] ([], []) 2 = ([[2]], [2]) := by unfold cstep; rw [if_neg (by simp)]; show ([] ++ [arrL awG.reach (visit awG.reach [2, 3, 4] 3 [] 2).1], (visit awG.reach [2, 3, 4] 3 [] 2).2) = _; rw [aw_v1, aw_arr1]; rfl
  have e2 : cstep awG.reach [2, 3, 4] ([[2]], [2]) 3 = ([[2], [3, 4]], [4, 3, 2]) := by unfold cstep; rw [if_neg (by simp)]; show ([[2]] ++ [arrL awG.reach (visit awG.reach [2, 3, 4] 3 [2] 3).1], (visit awG.reach [2, 3, 4] 3 [2] 3).2) = _; rw [aw_v2, aw_arr2]; rfl
  have e3 : cstep awG.reach [2, 3, 4] ([[2], [3, 4]], [4, 3, 2]) 4 = ([[2], [3, 4]], [4, 3, 2]) := by unfold cstep; rw [if_pos (by simp)]
  rw [List.foldl_cons, e1, List.foldl_cons, e2, List.foldl_cons, e3]; rfl
theorem aw_g0 : ([2, 3, 4].filter fun i => gapN awG.reach [0, 1] i == 0) = [] := by kernel_rfl
theorem aw_g1 : ([2, 3, 4].filter fun i => gapN awG.reach [0, 1] i == 1) = [2, 3, 4] := by kernel_rfl
theorem aw_g2 : ([2, 3, 4].filter fun i => gapN awG.reach [0, 1] i == 2) = [] := by kernel_rfl
theorem awG_regions : regionsL awG.reach awG.living = awRegs := by
  unfold regionsL
  rw [awG_settled, awG_out]
  have e0 : regStep awG.reach [0, 1] [2, 3, 4] ([], []) 0 = ([], [0]) := by unfold regStep; rw [aw_g0]; rfl
  have e1 : regStep awG.reach [0, 1] [2, 3, 4] ([], [0]) 1 = ([⟨false, [0], []⟩, ⟨true, [], [[2], [3, 4]]⟩], [1]) := by unfold regStep; rw [aw_g1]; simp [aw_classes]
  have e2 : regStep awG.reach [0, 1] [2, 3, 4] ([⟨false, [0], []⟩, ⟨true, [], [[2], [3, 4]]⟩], [1]) 2 = ([⟨false, [0], []⟩, ⟨true, [], [[2], [3, 4]]⟩], [1]) := by unfold regStep; rw [aw_g2]; rfl
  show regEnd (regRun awG.reach [0, 1] [2, 3, 4] 3) = _
  rw [regRun_succ, regRun_succ, regRun_succ]
  rw [show regRun awG.reach [0, 1] [2, 3, 4] 0 = ([], []) from rfl, e0, e1, e2]
  rfl
theorem awG_seq : seqL awG.reach awG.living = [0, 2, 3, 4, 1] := by unfold seqL; rw [awG_regions]; rfl
end Go.Proofs.Lg
