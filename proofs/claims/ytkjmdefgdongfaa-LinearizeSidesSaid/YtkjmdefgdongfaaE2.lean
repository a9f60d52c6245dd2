/-
  Contracts of LinearizeCertain$1 and of slices.IndexFunc, ContainsFunc at regions with it.
-/
import Derived.Test.YtkjmdefgdongfaaL5
import Derived.Test.YtkjmdefgdongfaaE1
namespace Go.Proofs.Lg
open Go Go.RowKit

theorem certain1_any (cf : Bool) (vl vs : Value) (w : World) : Calls Try.prog 14 #[.agg #[.bool cf, vl, vs]] w fun e w' => e = .returned (.bool cf) ∧ Below w.heap.size w w' := by
  go_enter Try.func14, Try.ntmps14
  go_wp2
  go_ret
  exact ⟨rfl, (Below.refl _ _).alloc (Nat.le_refl _) _⟩

/-- Which regions have a conflict, as numbers. -/
def cfl (regs : List Reg) : List Int := regs.map fun r => if r.conflict then 1 else 0
def isOne (x : Int) : Bool := x == 1
theorem cfl_any (regs : List Reg) : (cfl regs).any isOne = regs.any (·.conflict) := by
  unfold cfl
  rw [List.any_map]
  congr 1
  funext r
  cases h : r.conflict <;> simp [Function.comp, isOne, h]

set_option maxRecDepth 100000 in
set_option maxHeartbeats 2000000 in
theorem IndexFuncRegion_any (regs : List Reg) (v : Value) (w : World) (h : RegsIn w v regs) (hn : regs.length ≤ 100000000) :
    Calls Try.prog 37 #[v, .func (.func 14) #[] #[]] w fun e w' => e = .returned (.int .i64 (idxF isOne 0 (cfl regs))) ∧ Below w.heap.size w w' := by
  obtain ⟨a, c, rfl, h3⟩ := RegsIn.cells h
  have HC := Lib.hid h3
  have hcl : (cfl regs).length = regs.length := by simp [cfl]
  have HCL := Lib.hid hcl
  clear h3 h hcl
  go_enter Try.func37, Try.ntmps37
  go_wp2
  go_loopg [8] (regs.length + 1) (fun gk i wr => ∃ k : Nat, i = .int .i64 k ∧ k ≤ regs.length ∧ gk + k = regs.length + 1 ∧ idxF isOne 0 (cfl regs) = idxF isOne k ((cfl regs).drop k) ∧ Below w.heap.size w wr)
  case atStart => exact ⟨0, rfl, Nat.zero_le _, rfl, rfl, Below.refl _ _⟩
  case round =>
    obtain ⟨k, rfl, hk, hgk, hix, hB⟩ := hrel
    have HI := Lib.hid hix
    clear hix
    by_cases hlt : k < regs.length
    · obtain ⟨b, off, al, nl, cl, ay, ny, cy, rfl, p0, p1, p2, _, _⟩ := HC.out k _ (List.getElem?_eq_getElem hlt)
      have q0 := below_cell hB p0
      have q1 := below_cell hB p1
      have q2 := below_cell hB p2
      have ql := cell_lt q0
      have HD : Hid ((cfl regs).drop k = (if regs[k].conflict then 1 else 0) :: (cfl regs).drop (k + 1)) := by
        show _ = _
        rw [List.drop_eq_getElem_cons (by rw [HCL.out]; exact hlt)]
        simp [cfl]
      generalize regs[k].conflict = cf at *
      clear p0 p1 p2
      cases cf with
      | true =>
        go_wp2_with fail
        refine (certain1_any true _ _ wr).mono ?_
        rintro e w1 ⟨rfl, hb1⟩
        go_wp2
        go_ret
        exact ⟨ret_int (by rw [HI.out, HD.out]; simp [idxF, isOne]), hB.trans (hb1.mono hB.size)⟩
      | false =>
        go_wp2_with fail
        refine (certain1_any false _ _ wr).mono ?_
        rintro e w1 ⟨rfl, hb1⟩
        go_wp2
        go_roundg (gk - 1)
        case measure => omega
        case rel => exact ⟨k + 1, by go_num, by omega, by omega, by rw [HI.out, HD.out]; simp [idxF, isOne], hB.trans (hb1.mono hB.size)⟩
    · have HK : Hid (k = regs.length) := by show k = _; omega
      clear hgk
      go_wp2
      go_ret
      exact ⟨ret_int (by rw [HI.out, HK.out, List.drop_eq_nil_of_le (by rw [HCL.out]; exact Nat.le_refl _)]; rfl), hB⟩

set_option maxRecDepth 100000 in
theorem ContainsFuncRegion_any (regs : List Reg) (v : Value) (w : World) (h : RegsIn w v regs) (hn : regs.length ≤ 100000000) :
    Calls Try.prog 13 #[v, .func (.func 14) #[] #[]] w fun e w' => e = .returned (.bool (regs.any (·.conflict))) ∧ Below w.heap.size w w' := by
  have HI := Lib.hid (IndexFuncRegion_any regs v w h hn)
  have ha := idxF_any isOne (cfl regs) 0
  rw [cfl_any] at ha
  clear h
  generalize idxF isOne 0 (cfl regs) = n at *
  cases hb : regs.any (·.conflict) with
  | true =>
    have hd : decide (0 ≤ n) = true := by rw [hb] at ha; simp [ha]
    clear ha hb
    go_enter Try.func13, Try.ntmps13
    go_wp2_with fail
    refine HI.out.mono ?_
    rintro e w1 ⟨rfl, hb1⟩
    go_wp2
    go_ret
    exact ⟨rfl, hb1⟩
  | false =>
    have hd : decide (0 ≤ n) = false := by rw [hb] at ha; simp [ha]
    clear ha hb
    go_enter Try.func13, Try.ntmps13
    go_wp2_with fail
    refine HI.out.mono ?_
    rintro e w1 ⟨rfl, hb1⟩
    go_wp2
    go_ret
    exact ⟨rfl, hb1⟩
end Go.Proofs.Lg
