/-
  Part GB of this claim's proof. Joined by merge.py from the texts of wip/tpl.
-/
import Derived.Test.YtjlnniaknfpgiaaGreatDoorC3
set_option linter.unusedVariables false
set_option linter.unusedSimpArgs false
set_option linter.unnecessarySimpa false
namespace Go.Proofs.Lg
open Go Go.RowKit

def u8l (d : List Int) : List Value := d.map (Value.int .u8)

set_option maxRecDepth 100000 in
set_option maxHeartbeats 4000000 in
theorem digCompare_any (x y : List Int) (hx : Bytes x) (hy : Bytes y) (hlx : x.length = 32) (hly : y.length = 32) (w : World) :
    Calls Tryz.prog 54 #[.agg (u8l x).toArray, .agg (u8l y).toArray] w fun e w' => e = .returned (.int .i64 (lexCmp x y)) ∧ Below w.heap.size w w' := by
  have hA : ∀ (k : Nat) (a b : Int), x[k]? = some a → y[k]? = some b → ((w.alloc (.cells ((u8l x).toArray) 40)).alloc (.cells ((u8l y).toArray) 40)).cell? ⟨w.heap.size, k, none⟩ = some (Value.int .u8 a) ∧ ((w.alloc (.cells ((u8l x).toArray) 40)).alloc (.cells ((u8l y).toArray) 40)).cell? ⟨w.heap.size + 1, k, none⟩ = some (Value.int .u8 b) := by
    intro k a b ha hb
    have h1 : (u8l x).toArray[k]? = some (Value.int .u8 a) := by simp [u8l, ha]
    have h2 : (u8l y).toArray[k]? = some (Value.int .u8 b) := by simp [u8l, hb]
    exact ⟨by simp [go_sem, h1], by simp [go_sem, h2]⟩
  have HA := Lib.hid hA
  obtain ⟨X, hX⟩ : ∃ X, X = (u8l x).toArray := ⟨_, rfl⟩
  obtain ⟨Y, hY⟩ : ∃ Y, Y = (u8l y).toArray := ⟨_, rfl⟩
  rw [← hX, ← hY] at HA ⊢
  have HX := Lib.hid hx
  have HY := Lib.hid hy
  have HLX := Lib.hid hlx
  have HLY := Lib.hid hly
  clear hA hX hY hx hy hlx hly
  have hB0 : Hid (Below w.heap.size w ((w.alloc (.cells X 40)).alloc (.cells Y 40))) := ((Below.refl _ _).alloc (Nat.le_refl _) _).alloc (by simp) _
  go_enter Tryz.func54, Tryz.ntmps54
  go_wp2
  go_loopw [5] (fun i wr => ∃ k : Nat, k ≤ 32 ∧ i = .int .i64 k ∧ lexCmp x y = lexCmp (x.drop k) (y.drop k) ∧ Keep ((w.alloc (.cells X 40)).alloc (.cells Y 40)) wr) (fun i _ => 32 - (intOf i).toNat)
  case atStart => exact ⟨0, by omega, rfl, rfl, Keep.refl _⟩
  case round =>
    obtain ⟨k, hk, rfl, hor, hK⟩ := hrel
    have HO := Lib.hid hor
    have HK := Lib.hid hK
    have HBr : Hid (Below w.heap.size w wr) := hB0.out.trans (Below.mono hK hB0.out.size)
    clear hor
    by_cases hlt : k < 32
    · have hlx := HLX.out
      have hly := HLY.out
      obtain ⟨ha, hb⟩ := HA.out k _ _ (List.getElem?_eq_getElem (by omega)) (List.getElem?_eq_getElem (by omega))
      have HDX : Hid (x.drop k = x[k] :: x.drop (k + 1)) := List.drop_eq_getElem_cons (by omega)
      have HDY : Hid (y.drop k = y[k] :: y.drop (k + 1)) := List.drop_eq_getElem_cons (by omega)
      have hxr := HX.out _ (List.getElem_mem (l := x) (n := k) (by omega))
      have hyr := HY.out _ (List.getElem_mem (l := y) (n := k) (by omega))
      generalize x[k] = a at *
      generalize y[k] = b at *
      clear hlx hly
      have ca : ∀ p : Cls (Keep wr), p.w.cell? ⟨w.heap.size, k, none⟩ = some (.int .u8 a) := fun p => below_cell p.h (below_cell hK ha)
      have cb : ∀ p : Cls (Keep wr), p.w.cell? ⟨w.heap.size + 1, k, none⟩ = some (.int .u8 b) := fun p => below_cell p.h (below_cell hK hb)
      have hne : Nonempty (Cls (Keep wr)) := ⟨⟨wr, Keep.refl wr⟩⟩
      have b1 : (0 : Int) ≤ (k : Int) := by omega
      have b2 : (k : Int) < 32 := by omega
      clear ha hb
      by_cases h1 : a < b
      · have hd : decide (a < b) = true := by simp [h1]
        have H1 := Lib.hid h1
        clear h1
        go_wp2
        refine wp_region_cls (Keep wr) (by kernel_rfl) (by kernel_rfl) (Keep.drew wr) ?_
        repeat (go_big_quiet_step (fail))
        refine wpQuiet_nil ?_
        rintro w1 ⟨⟨_, hw1⟩, rfl⟩
        go_wp2
        go_ret
        refine ⟨ret_int ?_, HBr.out.trans (Below.mono hw1 HBr.out.size)⟩
        rw [HO.out, HDX.out, HDY.out]
        simp [lexCmp, H1.out]
      · by_cases h2 : b < a
        · have hd : decide (a < b) = false := by simp; omega
          have hd2 : decide (b < a) = true := by simp [h2]
          have H1 := Lib.hid h1
          have H2 := Lib.hid h2
          clear h1 h2
          go_wp2
          refine wp_region_cls (Keep wr) (by kernel_rfl) (by kernel_rfl) (Keep.drew wr) ?_
          repeat (go_big_quiet_step (fail))
          refine wpQuiet_nil ?_
          rintro w1 ⟨⟨_, hw1⟩, rfl⟩
          have ca2 : ∀ p : Cls (Keep w1), p.w.cell? ⟨w.heap.size, k, none⟩ = some (.int .u8 a) := fun p => ca ⟨p.w, hw1.trans p.h⟩
          have cb2 : ∀ p : Cls (Keep w1), p.w.cell? ⟨w.heap.size + 1, k, none⟩ = some (.int .u8 b) := fun p => cb ⟨p.w, hw1.trans p.h⟩
          have hne2 : Nonempty (Cls (Keep w1)) := ⟨⟨w1, Keep.refl w1⟩⟩
          clear ca cb hne
          go_wp2
          refine wp_region_cls (Keep w1) (by kernel_rfl) (by kernel_rfl) (Keep.drew w1) ?_
          repeat (go_big_quiet_step (fail))
          refine wpQuiet_nil ?_
          rintro w2 ⟨⟨_, hw2⟩, rfl⟩
          go_wp2
          go_ret
          refine ⟨ret_int ?_, HBr.out.trans (Below.mono (Keep.trans hw1 hw2) HBr.out.size)⟩
          rw [HO.out, HDX.out, HDY.out]
          simp [lexCmp, H1.out, H2.out]
        · have hd : decide (a < b) = false := by simp; omega
          have hd2 : decide (b < a) = false := by simp; omega
          have HE : Hid (a = b) := by show a = b; omega
          clear h1 h2
          go_wp2
          refine wp_region_cls (Keep wr) (by kernel_rfl) (by kernel_rfl) (Keep.drew wr) ?_
          repeat (go_big_quiet_step (fail))
          refine wpQuiet_nil ?_
          rintro w1 ⟨⟨_, hw1⟩, rfl⟩
          have ca2 : ∀ p : Cls (Keep w1), p.w.cell? ⟨w.heap.size, k, none⟩ = some (.int .u8 a) := fun p => ca ⟨p.w, hw1.trans p.h⟩
          have cb2 : ∀ p : Cls (Keep w1), p.w.cell? ⟨w.heap.size + 1, k, none⟩ = some (.int .u8 b) := fun p => cb ⟨p.w, hw1.trans p.h⟩
          have hne2 : Nonempty (Cls (Keep w1)) := ⟨⟨w1, Keep.refl w1⟩⟩
          clear ca cb hne
          go_wp2
          refine wp_region_cls (Keep w1) (by kernel_rfl) (by kernel_rfl) (Keep.drew w1) ?_
          repeat (go_big_quiet_step (fail))
          refine wpQuiet_nil ?_
          rintro w2 ⟨⟨_, hw2⟩, rfl⟩
          go_wp2
          go_roundw
          case rel =>
            refine ⟨k + 1, by omega, by go_num, ?_, HK.out.trans (hw1.trans hw2)⟩
            rw [HO.out, HDX.out, HDY.out, HE.out]
            simp [lexCmp]
          case measure => simp [intOf]; omega
    · have hk32 : k = 32 := by omega
      subst hk32
      go_wp2
      go_ret
      refine ⟨ret_int ?_, HBr.out⟩
      rw [HO.out, List.drop_eq_nil_of_le (by rw [HLX.out]; omega), List.drop_eq_nil_of_le (by rw [HLY.out]; omega)]
      rfl

theorem size_Digest : (Tryz.prog.info? 40).map (·.size) = some 32 := by kernel_rfl
theorem idCells_digest {w : World} {b : Nat} {d : List Int} {n : Int} (_h : d.length = 32) (hc : ∀ j u, (idCells d n)[j]? = some u → w.cell? ⟨b, j, none⟩ = some u) : w.rangeAt b 0 (u8l d) := by
  intro j u hu
  rw [Nat.zero_add]
  refine hc j u ?_
  have hu' : (d.map (Value.int .u8))[j]? = some u := by simpa [u8l] using hu
  have hj : j < d.length := by have := (List.getElem?_eq_some_iff.1 hu').1; simpa using this
  simp only [idCells, List.getElem?_toArray]
  rw [List.getElem?_append_left (by simpa using hj)]
  exact hu'

set_option maxRecDepth 100000 in
set_option maxHeartbeats 4000000 in
theorem refCompare_any (x y : List Int) (n m : Int) (hx : Bytes x) (hy : Bytes y) (hlx : x.length = 32) (hly : y.length = 32) (w : World) :
    Calls Tryz.prog 27 #[.agg (idCells x n), .agg (idCells y m)] w fun e w' => e = .returned (.int .i64 (cmpId x n y m)) ∧ Below w.heap.size w w' := by
  obtain ⟨X, hX⟩ : ∃ X, X = idCells x n := ⟨_, rfl⟩
  obtain ⟨Y, hY⟩ : ∃ Y, Y = idCells y m := ⟨_, rfl⟩
  have r1 : ((w.alloc (.cells X 42)).alloc (.cells Y 42)).rangeAt w.heap.size 0 (u8l x) := idCells_digest (n := n) hlx fun j u hu => by simp [go_sem, hu, hX]
  have r2 : ((w.alloc (.cells X 42)).alloc (.cells Y 42)).rangeAt (w.heap.size + 1) 0 (u8l y) := idCells_digest (n := m) hly fun j u hu => by simp [go_sem, hu, hY]
  have n1 : ((w.alloc (.cells X 42)).alloc (.cells Y 42)).cell? ⟨w.heap.size, 32, none⟩ = some (.int .i64 n) := by have := idCells_last n hlx; rw [← hX] at this; simp [go_sem, this]
  have n2 : ((w.alloc (.cells X 42)).alloc (.cells Y 42)).cell? ⟨w.heap.size + 1, 32, none⟩ = some (.int .i64 m) := by have := idCells_last m hly; rw [← hY] at this; simp [go_sem, this]
  have hB0 : Hid (Below w.heap.size w ((w.alloc (.cells X 42)).alloc (.cells Y 42))) := ((Below.refl _ _).alloc (Nat.le_refl _) _).alloc (by simp) _
  have hu := Tryz.underlying40
  have hi1 : (Tryz.prog.info? 40).map (·.size) = some (u8l x).length := by rw [size_Digest]; simp [u8l, hlx]
  have hi2 : (Tryz.prog.info? 40).map (·.size) = some (u8l y).length := by rw [size_Digest]; simp [u8l, hly]
  have HD := Lib.hid (digCompare_any x y hx hy hlx hly ((w.alloc (.cells X 42)).alloc (.cells Y 42)))
  have s0 : w.heap.size < ((w.alloc (.cells X 42)).alloc (.cells Y 42)).heap.size := by simp; omega
  have s1 : w.heap.size + 1 < ((w.alloc (.cells X 42)).alloc (.cells Y 42)).heap.size := by simp
  rw [← hX, ← hY]
  clear hX hY hx hy hlx hly
  by_cases hl : lexCmp x y = 0
  · have hl1 : (lexCmp x y == 0) = true := by simp [hl]
    have hl2 : (lexCmp x y != 0) = false := by simp [hl]
    have HC : Hid (cmpId x n y m = cmpInt n m) := by show _ = _; unfold cmpId; rw [if_pos hl]
    clear hl
    rw [HC.out]
    by_cases h1 : n < m
    · have hd : decide (n < m) = true := by simp [h1]
      have HR : Hid (cmpInt n m = -1) := by show _ = _; unfold cmpInt; rw [if_pos h1]
      clear h1
      go_enter Tryz.func27, Tryz.ntmps27
      go_wp2_with (first | (refine wpList_load_mid rfl _ _ rfl _ _ rfl _ _ r1 hu rfl hi1 ?_; simp only [Act.put, List.setIfInBounds_toArray, List.set_cons_zero, List.set_cons_succ]) | (refine wpList_load_mid rfl _ _ rfl _ _ rfl _ _ r2 hu rfl hi2 ?_; simp only [Act.put, List.setIfInBounds_toArray, List.set_cons_zero, List.set_cons_succ]) | fail)
      refine HD.out.mono ?_
      rintro e w1 ⟨rfl, hb1⟩
      have m1 : w1.cell? ⟨w.heap.size, 32, none⟩ = some (.int .i64 n) := below_cell hb1 n1
      have m2 : w1.cell? ⟨w.heap.size + 1, 32, none⟩ = some (.int .i64 m) := below_cell hb1 n2
      have l1 := cell_lt m1
      have l2 := cell_lt m2
      have HB1 : Hid (Below w.heap.size w w1) := hB0.out.trans (Below.mono hb1 hB0.out.size)
      clear r1 r2 n1 n2 hb1 s0 s1 hu hi1 hi2
      go_wp2
      go_ret
      exact ⟨ret_int HR.out.symm, HB1.out⟩
    · by_cases h2 : m < n
      · have hd : decide (n < m) = false := by simp; omega
        have hd2 : decide (m < n) = true := by simp [h2]
        have HR : Hid (cmpInt n m = 1) := by show _ = _; unfold cmpInt; rw [if_neg h1, if_pos h2]
        clear h1 h2
        go_enter Tryz.func27, Tryz.ntmps27
        go_wp2_with (first | (refine wpList_load_mid rfl _ _ rfl _ _ rfl _ _ r1 hu rfl hi1 ?_; simp only [Act.put, List.setIfInBounds_toArray, List.set_cons_zero, List.set_cons_succ]) | (refine wpList_load_mid rfl _ _ rfl _ _ rfl _ _ r2 hu rfl hi2 ?_; simp only [Act.put, List.setIfInBounds_toArray, List.set_cons_zero, List.set_cons_succ]) | fail)
        refine HD.out.mono ?_
        rintro e w1 ⟨rfl, hb1⟩
        have m1 : w1.cell? ⟨w.heap.size, 32, none⟩ = some (.int .i64 n) := below_cell hb1 n1
        have m2 : w1.cell? ⟨w.heap.size + 1, 32, none⟩ = some (.int .i64 m) := below_cell hb1 n2
        have l1 := cell_lt m1
        have l2 := cell_lt m2
        have HB1 : Hid (Below w.heap.size w w1) := hB0.out.trans (Below.mono hb1 hB0.out.size)
        clear r1 r2 n1 n2 hb1 s0 s1 hu hi1 hi2
        go_wp2
        go_ret
        exact ⟨ret_int HR.out.symm, HB1.out⟩
      · have hd : decide (n < m) = false := by simp; omega
        have hd2 : decide (m < n) = false := by simp; omega
        have HR : Hid (cmpInt n m = 0) := by show _ = _; unfold cmpInt; rw [if_neg h1, if_neg h2]
        clear h1 h2
        go_enter Tryz.func27, Tryz.ntmps27
        go_wp2_with (first | (refine wpList_load_mid rfl _ _ rfl _ _ rfl _ _ r1 hu rfl hi1 ?_; simp only [Act.put, List.setIfInBounds_toArray, List.set_cons_zero, List.set_cons_succ]) | (refine wpList_load_mid rfl _ _ rfl _ _ rfl _ _ r2 hu rfl hi2 ?_; simp only [Act.put, List.setIfInBounds_toArray, List.set_cons_zero, List.set_cons_succ]) | fail)
        refine HD.out.mono ?_
        rintro e w1 ⟨rfl, hb1⟩
        have m1 : w1.cell? ⟨w.heap.size, 32, none⟩ = some (.int .i64 n) := below_cell hb1 n1
        have m2 : w1.cell? ⟨w.heap.size + 1, 32, none⟩ = some (.int .i64 m) := below_cell hb1 n2
        have l1 := cell_lt m1
        have l2 := cell_lt m2
        have HB1 : Hid (Below w.heap.size w w1) := hB0.out.trans (Below.mono hb1 hB0.out.size)
        clear r1 r2 n1 n2 hb1 s0 s1 hu hi1 hi2
        go_wp2
        go_ret
        exact ⟨ret_int HR.out.symm, HB1.out⟩
  · have hl1 : (lexCmp x y == 0) = false := by simp [hl]
    have hl2 : (lexCmp x y != 0) = true := by simp [hl]
    have HC : Hid (cmpId x n y m = lexCmp x y) := by show _ = _; unfold cmpId; rw [if_neg hl]
    clear hl
    rw [HC.out]
    go_enter Tryz.func27, Tryz.ntmps27
    go_wp2_with (first | (refine wpList_load_mid rfl _ _ rfl _ _ rfl _ _ r1 hu rfl hi1 ?_; simp only [Act.put, List.setIfInBounds_toArray, List.set_cons_zero, List.set_cons_succ]) | (refine wpList_load_mid rfl _ _ rfl _ _ rfl _ _ r2 hu rfl hi2 ?_; simp only [Act.put, List.setIfInBounds_toArray, List.set_cons_zero, List.set_cons_succ]) | fail)
    refine HD.out.mono ?_
    rintro e w1 ⟨rfl, hb1⟩
    have m1 : w1.cell? ⟨w.heap.size, 32, none⟩ = some (.int .i64 n) := below_cell hb1 n1
    have m2 : w1.cell? ⟨w.heap.size + 1, 32, none⟩ = some (.int .i64 m) := below_cell hb1 n2
    have l1 := cell_lt m1
    have l2 := cell_lt m2
    have HB1 : Hid (Below w.heap.size w w1) := hB0.out.trans (Below.mono hb1 hB0.out.size)
    clear r1 r2 n1 n2 hb1 s0 s1 hu hi1 hi2
    go_wp2
    go_ret
    exact ⟨rfl, HB1.out⟩

def lessE (p e : Int × Int) : Bool := decide (p.1 < e.1) || (decide (p.1 = e.1) && decide (p.2 < e.2))
theorem lessE_cmp (p e : Int × Int) : lessE p e = decide (cmpEdge p e < 0) := by
  obtain ⟨a, b⟩ := p
  obtain ⟨c, d⟩ := e
  unfold lessE cmpEdge cmpInt
  dsimp only
  rw [Bool.eq_iff_iff]
  simp only [Bool.or_eq_true, Bool.and_eq_true, decide_eq_true_eq]
  by_cases h1 : a < c
  · simp [orInt, h1]
  · by_cases h2 : c < a
    · simp [orInt, h1, h2]; omega
    · have : a = c := by omega
      subst this
      by_cases h3 : b < d
      · simp [orInt, h3]
      · by_cases h4 : d < b
        · simp [orInt, h3, h4]
        · simp [orInt, h3, h4]

set_option maxRecDepth 100000 in
set_option maxHeartbeats 2000000 in
theorem refLess_any (a b c d : Int) (w : World) :
    Calls Tryz.prog 28 #[.agg #[.int .i64 a, .int .i64 b], .agg #[.int .i64 c, .int .i64 d]] w fun e w' => e = .returned (.bool (lessE (a, b) (c, d))) ∧ Below w.heap.size w w' := by
  have hB0 : Hid (Below w.heap.size w ((w.alloc (.cells #[.int .i64 a, .int .i64 b] 64)).alloc (.cells #[.int .i64 c, .int .i64 d] 64))) := ((Below.refl _ _).alloc (Nat.le_refl _) _).alloc (by simp) _
  by_cases h1 : a < c
  · have hd : decide (a < c) = true := by simp [h1]
    have HR : Hid (lessE (a, b) (c, d) = true) := by show _ = _; simp [lessE, h1]
    clear h1
    go_enter Tryz.func28, Tryz.ntmps28
    go_wp2
    go_ret
    rw [HR.out]
    exact ⟨rfl, hB0.out⟩
  · by_cases h2 : a = c
    · have hd : decide (a < c) = false := by simp; omega
      have hd2 : (a == c) = true := by simp [h2]
      have HR : Hid (lessE (a, b) (c, d) = decide (b < d)) := by show _ = _; simp [lessE, h2]
      clear h1 h2
      rw [HR.out]
      go_enter Tryz.func28, Tryz.ntmps28
      go_wp2
      all_goals (go_ret; exact ⟨rfl, hB0.out⟩)
    · have hd : decide (a < c) = false := by simp; omega
      have hd2 : (a == c) = false := by simp [h2]
      have HR : Hid (lessE (a, b) (c, d) = false) := by show _ = _; simp [lessE, h1, h2]
      clear h1 h2
      go_enter Tryz.func28, Tryz.ntmps28
      go_wp2
      go_ret
      rw [HR.out]
      exact ⟨rfl, hB0.out⟩
end Go.Proofs.Lg

namespace Go.Proofs.Lg
open Go Go.RowKit

set_option maxHeartbeats 16000000 in
set_option maxRecDepth 100000 in
theorem refCheck_any (vl ve : Value) (g : Gr) (w : World) (hg : GrAt w vl ve g) :
    Calls Tryz.prog 8 #[.agg #[vl, ve]] w fun e w' => e = .returned (.int .i64 g.check) ∧ Below w.heap.size w w' := by
  obtain ⟨⟨al, cl, rfl, hl1, hl2, hl3⟩, ⟨ae, ce, rfl, he1, he2, he3⟩, hokl, hoke, hfl, hfe⟩ := hg
  simp only [List.length_map] at *
  go_enter Tryz.func8, Tryz.ntmps8
  go_wp2
  go_loopw [4] (fun i wr => ∃ k : Nat, i = .int .i64 ((k : Int) + 1) ∧ (k = 0 ∨ k < g.lines.length) ∧ linesOk g.lines = linesOk (g.lines.drop k) ∧ Below (w.heap.size + 1) (w.alloc (.cells #[.slice al g.lines.length cl, .slice ae g.edges.length ce] 25)) wr) (fun i _ => g.lines.length + 1 - (intOf i).toNat)
  case atStart => exact ⟨0, by simp, .inl rfl, rfl, Below.refl _ _⟩
  case round =>
    obtain ⟨k, rfl, hk, hor, hB⟩ := hrel
    have HO := Lib.hid hor
    clear hor
    have hB0 : Below w.heap.size w wr := ((Below.refl _ _).alloc (Nat.le_refl _) _).trans (hB.mono (by omega))
    have hbox : wr.cell? ⟨w.heap.size, 0, none⟩ = some (.slice al g.lines.length cl) := (hB.cell (by simp)).trans (by simp [go_sem])
    have hbox1 : wr.cell? ⟨w.heap.size, 1, none⟩ = some (.slice ae g.edges.length ce) := (hB.cell (by simp)).trans (by simp [go_sem])
    by_cases hlt : k + 1 < g.lines.length
    · obtain ⟨b, off, rfl, hc⟩ := hl3 (by intro e; rw [List.map_eq_nil_iff] at e; simp [e] at hlt)
      have r1 := rangeAt_below hB0 (Vtx.id_range (hokl g.lines[k] (List.getElem_mem _)).1 (hc k _ (by simp; exact ⟨_, List.getElem?_eq_getElem (by omega), rfl⟩)))
      have r2 := rangeAt_below hB0 (Vtx.id_range (hokl g.lines[k + 1] (List.getElem_mem _)).1 (hc (k + 1) _ (by simp; exact ⟨_, List.getElem?_eq_getElem (by omega), rfl⟩)))
      have o1 := hokl g.lines[k] (List.getElem_mem _)
      have o2 := hokl g.lines[k + 1] (List.getElem_mem _)
      have hd : g.lines.drop k = g.lines[k] :: g.lines[k + 1] :: g.lines.drop (k + 2) := by
        rw [List.drop_eq_getElem_cons (by omega), List.drop_eq_getElem_cons (by omega)]
      have hd2 : g.lines.drop (k + 1) = g.lines[k + 1] :: g.lines.drop (k + 2) := List.drop_eq_getElem_cons (by omega)
      generalize g.lines[k] = x at r1 o1 hd
      generalize g.lines[k + 1] = y at r2 o2 hd hd2
      have HD := Lib.hid hd
      have HD2 := Lib.hid hd2
      clear hd hd2 hc hl3 he3 hokl hoke
      have hu := Tryz.underlying42
      have hi : (Tryz.prog.info? 42).map (·.size) = some (idCells x.id x.n).toList.length := by rw [size_Id]; simp [idCells, o1.1]
      have hi' : (Tryz.prog.info? 42).map (·.size) = some (idCells y.id y.n).toList.length := by rw [size_Id]; simp [idCells, o2.1]
      have b1 : (0 : Int) ≤ (k : Int) := by omega
      have b2 : (k : Int) < g.lines.length := by omega
      have b3 : (0 : Int) ≤ (k : Int) + 1 := by omega
      have b4 : (k : Int) + 1 < g.lines.length := by omega
      have hne : Nonempty (Cls (Keep wr)) := ⟨⟨wr, Keep.refl wr⟩⟩
      have cbox : ∀ p : Cls (Keep wr), p.w.cell? ⟨w.heap.size, 0, none⟩ = some (.slice (some ⟨b, off, none⟩) g.lines.length cl) := fun p => below_cell p.h hbox
      have q1 : ∀ p : Cls (Keep wr), p.w.rangeAt b (off + k * 35) (idCells x.id x.n).toList := fun p => rangeAt_below p.h r1
      have q2 : ∀ p : Cls (Keep wr), p.w.rangeAt b (off + (k + 1) * 35) (idCells y.id y.n).toList := fun p => rangeAt_below p.h r2
      by_cases hcmp : 0 ≤ cmpId x.id x.n y.id y.n
      · have HC := Lib.hid hcmp
        have hcb : decide (0 ≤ cmpId x.id x.n y.id y.n) = true := by simp [hcmp]
        clear hcmp
        go_wp2
        refine wp_region_cls (Keep wr) (by kernel_rfl) (by kernel_rfl) (Keep.drew wr) ?_
        repeat (first | (refine wpQuiet_load_mid rfl _ _ rfl _ _ rfl _ _ q1 hu rfl hi ?_; simp only [Act.put, List.setIfInBounds_toArray, List.set_cons_zero, List.set_cons_succ]) | (refine wpQuiet_load_mid rfl _ _ rfl _ _ rfl _ _ q2 hu rfl hi' ?_; simp only [Act.put, List.setIfInBounds_toArray, List.set_cons_zero, List.set_cons_succ]) | go_big_quiet_step ((go_at_call 27; refine Calls.cls (refCompare_any x.id y.id x.n y.n o1.2.1 o2.2.1 o1.1 o2.1 _))))
        refine wpQuiet_nil ?_
        rintro w1 ⟨⟨_, hw1⟩, rfl⟩
        go_wp2
        go_ret
        refine ⟨ret_int ?_, hB0.trans (Below.mono hw1 hB0.size)⟩
        unfold Gr.check
        rw [HO.out, HD.out, linesOk_cons]
        have : ¬ x.cmp y < 0 := by unfold Vtx.cmp; have := HC.out; omega
        simp [this]
      · have HC := Lib.hid hcmp
        have hcb : decide (0 ≤ cmpId x.id x.n y.id y.n) = false := by simp; omega
        clear hcmp
        go_wp2
        refine wp_region_cls (Keep wr) (by kernel_rfl) (by kernel_rfl) (Keep.drew wr) ?_
        repeat (first | (refine wpQuiet_load_mid rfl _ _ rfl _ _ rfl _ _ q1 hu rfl hi ?_; simp only [Act.put, List.setIfInBounds_toArray, List.set_cons_zero, List.set_cons_succ]) | (refine wpQuiet_load_mid rfl _ _ rfl _ _ rfl _ _ q2 hu rfl hi' ?_; simp only [Act.put, List.setIfInBounds_toArray, List.set_cons_zero, List.set_cons_succ]) | go_big_quiet_step ((go_at_call 27; refine Calls.cls (refCompare_any x.id y.id x.n y.n o1.2.1 o2.2.1 o1.1 o2.1 _))))
        refine wpQuiet_nil ?_
        rintro w1 ⟨⟨_, hw1⟩, rfl⟩
        go_wp2
        go_roundw
        case rel =>
          refine ⟨k + 1, by go_num, .inr (by omega), ?_, hB.trans (Below.mono hw1 (by have := hB.size; simp at this; omega))⟩
          have : x.cmp y < 0 := by unfold Vtx.cmp; have := HC.out; omega
          rw [HO.out, HD.out, HD2.out, linesOk_cons]
          simp [this]
        case measure => simp [intOf]; omega
    · have HL : Hid (linesOk g.lines = true) := by
        show linesOk g.lines = true
        rw [HO.out]
        rcases hk with rfl | hk
        · match hgl : g.lines with
          | [] => rfl
          | [x] => rfl
          | x :: y :: l => rw [hgl] at hlt; simp at hlt
        · rw [List.drop_eq_getElem_cons hk, List.drop_eq_nil_of_le (by omega)]; rfl
      clear hl3 hk HO hokl hB
      obtain ⟨wo, rfl⟩ : ∃ wo : World, wo = wr := ⟨_, rfl⟩
      have hda : decide ((k : Int) + 1 < (g.lines.length : Int)) = false := by simp; omega
      clear hlt
      go_wp2
      go_loopw [5] (fun i w2 => ∃ k : Nat, k ≤ g.edges.length ∧ i = .int .i64 k ∧ edgesErr g.lines.length none g.edges = edgesErr g.lines.length (prevEdge g.edges k) (g.edges.drop k) ∧ Keep wo w2) (fun i _ => g.edges.length - (intOf i).toNat)
      case atStart => exact ⟨0, Nat.zero_le _, rfl, rfl, Keep.refl wo⟩
      case round =>
        obtain ⟨k, hk, rfl, hor, hK⟩ := hrel
        have HO := Lib.hid hor
        clear hor
        have HB2 : Hid (Below w.heap.size w wr) := hB0.trans (Below.mono hK hB0.size)
        have hb2 := below_cell hK hbox
        have hb3 := below_cell hK hbox1
        have hsz := cell_lt hb2
        by_cases hlt : k < g.edges.length
        · obtain ⟨b, off, rfl, hc⟩ := he3 (by intro e; rw [List.map_eq_nil_iff] at e; simp [e] at hlt)
          obtain ⟨r1, r2⟩ := edge_range (e := g.edges[k]) (rangeAt_below HB2.out (hc k _ (by rw [List.getElem?_map, List.getElem?_eq_getElem hlt]; rfl)))
          have o1 := hoke g.edges[k] (List.getElem_mem _)
          have hd : g.edges.drop k = g.edges[k] :: g.edges.drop (k + 1) := List.drop_eq_getElem_cons hlt
          have hp : prevEdge g.edges (k + 1) = some g.edges[k] := List.getElem?_eq_getElem hlt
          generalize g.edges[k] = e at r1 r2 o1 hd hp
          obtain ⟨e1, e2⟩ := e
          obtain ⟨o1, o2⟩ := o1
          dsimp only at r1 r2 o1 o2
          have HD := Lib.hid hd
          have HP := Lib.hid hp
          clear hd hp he3 hoke hbox hbox1
          have bl := cell_lt r1
          by_cases a1 : e1 < -1
          · have HA : Hid (outB g.lines.length e1 = true) := by show _ = _; simp [outB, a1]
            have d1 : decide (e1 < -1) = true := by simp [a1]
            clear a1 hc
            go_wp2
            go_ret
            refine ⟨ret_int ?_, HB2.out.alloc HB2.out.size _⟩
            unfold Gr.check
            rw [HL.out, HO.out, HD.out]
            cases prevEdge g.edges k <;> simp [edgesErr, HA.out]
          by_cases a2 : (g.lines.length : Int) ≤ e1
          · have HA : Hid (outB g.lines.length e1 = true) := by show _ = _; simp [outB, a2]
            have d1 : decide (e1 < -1) = false := by simp; omega
            have d2 : decide ((g.lines.length : Int) ≤ e1) = true := by simp [a2]
            clear a1 a2 hc
            go_wp2
            go_ret
            refine ⟨ret_int ?_, HB2.out.alloc HB2.out.size _⟩
            unfold Gr.check
            rw [HL.out, HO.out, HD.out]
            cases prevEdge g.edges k <;> simp [edgesErr, HA.out]
          by_cases a3 : e2 < -1
          · have HA : Hid (outB g.lines.length e2 = true) := by show _ = _; simp [outB, a3]
            have d1 : decide (e1 < -1) = false := by simp; omega
            have d2 : decide ((g.lines.length : Int) ≤ e1) = false := by simp; omega
            have d3 : decide (e2 < -1) = true := by simp [a3]
            clear a1 a2 a3 hc
            go_wp2
            go_ret
            refine ⟨ret_int ?_, HB2.out.alloc HB2.out.size _⟩
            unfold Gr.check
            rw [HL.out, HO.out, HD.out]
            cases prevEdge g.edges k <;> simp [edgesErr, HA.out]
          by_cases a4 : (g.lines.length : Int) ≤ e2
          · have HA : Hid (outB g.lines.length e2 = true) := by show _ = _; simp [outB, a4]
            have d1 : decide (e1 < -1) = false := by simp; omega
            have d2 : decide ((g.lines.length : Int) ≤ e1) = false := by simp; omega
            have d3 : decide (e2 < -1) = false := by simp; omega
            have d4 : decide ((g.lines.length : Int) ≤ e2) = true := by simp [a4]
            clear a1 a2 a3 a4 hc
            go_wp2
            go_ret
            refine ⟨ret_int ?_, HB2.out.alloc HB2.out.size _⟩
            unfold Gr.check
            rw [HL.out, HO.out, HD.out]
            cases prevEdge g.edges k <;> simp [edgesErr, HA.out]
          have HA : Hid (outB g.lines.length e1 = false) := by show _ = _; simp [outB]; omega
          have HA2 : Hid (outB g.lines.length e2 = false) := by show _ = _; simp [outB]; omega
          have d1 : decide (e1 < -1) = false := by simp; omega
          have d2 : decide ((g.lines.length : Int) ≤ e1) = false := by simp; omega
          have d3 : decide (e2 < -1) = false := by simp; omega
          have d4 : decide ((g.lines.length : Int) ≤ e2) = false := by simp; omega
          clear a1 a2 a3 a4
          by_cases heq : e1 = e2
          · have h1 : (e1 == e2) = true := by simp [heq]
            have HE := Lib.hid heq
            clear heq
            go_wp2
            go_ret
            refine ⟨ret_int ?_, HB2.out.alloc HB2.out.size _⟩
            unfold Gr.check
            rw [HL.out, HO.out, HD.out]
            have ha2 := HA2.out
            cases prevEdge g.edges k <;> simp [edgesErr, ha2, HE.out]
          · have h1 : (e1 == e2) = false := by simp [heq]
            have HE := Lib.hid heq
            clear heq
            by_cases hk0 : k = 0
            · have hd0 : decide ((0 : Int) < (k : Int)) = false := by simp [hk0]
              have hd1 : decide (0 < k) = false := by simp [hk0]
              have HZ := Lib.hid hk0
              clear hk0
              go_wp2
              refine wp_region_cls (Keep (wr.alloc (.cells #[.int .i64 e1, .int .i64 e2] 64))) (by kernel_rfl) (by kernel_rfl) (Keep.drew _) ?_
              have hne : Nonempty (Cls (Keep (wr.alloc (.cells #[.int .i64 e1, .int .i64 e2] 64)))) := ⟨⟨_, Keep.refl _⟩⟩
              repeat (go_big_quiet_step (fail))
              refine wpQuiet_nil ?_
              rintro w1 ⟨⟨_, hw1⟩, rfl⟩
              go_wp2
              go_roundw
              case rel =>
                refine ⟨k + 1, by omega, by go_num, ?_, hK.trans (Keep.trans ((Below.refl _ _).alloc (Nat.le_refl _) _) hw1)⟩
                rw [HO.out, HD.out, HP.out, HZ.out]
                simp [prevEdge, edgesErr, HA.out, HA2.out, HE.out]
              case measure => simp [intOf]; omega
            · have hd0 : decide ((0 : Int) < (k : Int)) = true := by simp; omega
              have hd1 : decide (0 < k) = true := by simp; omega
              have hk1 : 0 < k := by omega
              have hk2 : (0 : Int) ≤ (k : Int) - 1 := by omega
              have hk3 : (k : Int) - 1 < g.edges.length := by omega
              have hj : ((k : Int) - 1).toNat < g.edges.length := by omega
              obtain ⟨r3, r4⟩ := edge_range (e := g.edges[((k : Int) - 1).toNat]) (rangeAt_below HB2.out (hc _ _ (by rw [List.getElem?_map, List.getElem?_eq_getElem hj]; rfl)))
              have hpv : prevEdge g.edges k = some g.edges[((k : Int) - 1).toNat] := by
                obtain ⟨j, rfl⟩ : ∃ j, k = j + 1 := ⟨k - 1, by omega⟩
                have : ((j + 1 : Nat) - 1 : Int).toNat = j := by omega
                simp only [prevEdge, this]
                exact List.getElem?_eq_getElem (by omega)
              generalize g.edges[((k : Int) - 1).toNat] = p at r3 r4 hpv
              obtain ⟨p1, p2⟩ := p
              dsimp only at r3 r4
              have r3' := r3
              have r4' := r4
              rw [show ((k : Int) - 1).toNat = k - 1 by omega] at r3' r4'
              have HPV := Lib.hid hpv
              clear hpv hk0 hj hc
              have hle := lessE_cmp (p1, p2) (e1, e2)
              by_cases hcmp : cmpEdge (p1, p2) (e1, e2) < 0
              · have hcb : lessE (p1, p2) (e1, e2) = true := by rw [hle]; simpa using hcmp
                have HC := Lib.hid hcmp
                clear hcmp hle
                go_wp2
                refine wp_region_cls (Keep (wr.alloc (.cells #[.int .i64 e1, .int .i64 e2] 64))) (by kernel_rfl) (by kernel_rfl) (Keep.drew _) ?_
                have hne : Nonempty (Cls (Keep (wr.alloc (.cells #[.int .i64 e1, .int .i64 e2] 64)))) := ⟨⟨_, Keep.refl _⟩⟩
                have c1 : ∀ p : Cls (Keep (wr.alloc (.cells #[.int .i64 e1, .int .i64 e2] 64))), p.w.cell? ⟨w.heap.size, 1, none⟩ = some (.slice (some ⟨b, off, none⟩) g.edges.length ce) := fun p => below_cell p.h (alloc_cell hb3 _)
                have c2 : ∀ p : Cls (Keep (wr.alloc (.cells #[.int .i64 e1, .int .i64 e2] 64))), p.w.cell? ⟨b, off + ((k : Int) - 1).toNat * 2, none⟩ = some (.int .i64 p1) := fun p => below_cell p.h (alloc_cell r3 _)
                have c2' : ∀ p : Cls (Keep (wr.alloc (.cells #[.int .i64 e1, .int .i64 e2] 64))), p.w.cell? ⟨b, off + (k - 1) * 2, none⟩ = some (.int .i64 p1) := fun p => below_cell p.h (alloc_cell r3' _)
                have c3 : ∀ p : Cls (Keep (wr.alloc (.cells #[.int .i64 e1, .int .i64 e2] 64))), p.w.cell? ⟨b, off + ((k : Int) - 1).toNat * 2 + 1, none⟩ = some (.int .i64 p2) := fun p => below_cell p.h (alloc_cell r4 _)
                have c3' : ∀ p : Cls (Keep (wr.alloc (.cells #[.int .i64 e1, .int .i64 e2] 64))), p.w.cell? ⟨b, off + (k - 1) * 2 + 1, none⟩ = some (.int .i64 p2) := fun p => below_cell p.h (alloc_cell r4' _)
                have c4 : ∀ p : Cls (Keep (wr.alloc (.cells #[.int .i64 e1, .int .i64 e2] 64))), p.w.cell? ⟨wr.heap.size, 0, none⟩ = some (.int .i64 e1) := fun p => below_cell p.h (by simp [go_sem])
                have c5 : ∀ p : Cls (Keep (wr.alloc (.cells #[.int .i64 e1, .int .i64 e2] 64))), p.w.cell? ⟨wr.heap.size, 1, none⟩ = some (.int .i64 e2) := fun p => below_cell p.h (by simp [go_sem])
                repeat (go_big_quiet_step ((go_at_call 28; refine Calls.cls (refLess_any p1 p2 e1 e2 _))))
                refine wpQuiet_nil ?_
                rintro w1 ⟨⟨_, hw1⟩, rfl⟩
                go_wp2
                go_roundw
                case rel =>
                  refine ⟨k + 1, by omega, by go_num, ?_, hK.trans (Keep.trans ((Below.refl _ _).alloc (Nat.le_refl _) _) hw1)⟩
                  rw [HO.out, HD.out, HP.out, HPV.out]
                  simp [edgesErr, HA.out, HA2.out, HE.out]
                  intro h; have := HC.out; omega
                case measure => simp [intOf]; omega
              · have hcb : lessE (p1, p2) (e1, e2) = false := by rw [hle]; simpa using hcmp
                have HC := Lib.hid hcmp
                clear hcmp hle
                go_wp2
                refine wp_region_cls (Keep (wr.alloc (.cells #[.int .i64 e1, .int .i64 e2] 64))) (by kernel_rfl) (by kernel_rfl) (Keep.drew _) ?_
                have hne : Nonempty (Cls (Keep (wr.alloc (.cells #[.int .i64 e1, .int .i64 e2] 64)))) := ⟨⟨_, Keep.refl _⟩⟩
                have c1 : ∀ p : Cls (Keep (wr.alloc (.cells #[.int .i64 e1, .int .i64 e2] 64))), p.w.cell? ⟨w.heap.size, 1, none⟩ = some (.slice (some ⟨b, off, none⟩) g.edges.length ce) := fun p => below_cell p.h (alloc_cell hb3 _)
                have c2 : ∀ p : Cls (Keep (wr.alloc (.cells #[.int .i64 e1, .int .i64 e2] 64))), p.w.cell? ⟨b, off + ((k : Int) - 1).toNat * 2, none⟩ = some (.int .i64 p1) := fun p => below_cell p.h (alloc_cell r3 _)
                have c2' : ∀ p : Cls (Keep (wr.alloc (.cells #[.int .i64 e1, .int .i64 e2] 64))), p.w.cell? ⟨b, off + (k - 1) * 2, none⟩ = some (.int .i64 p1) := fun p => below_cell p.h (alloc_cell r3' _)
                have c3 : ∀ p : Cls (Keep (wr.alloc (.cells #[.int .i64 e1, .int .i64 e2] 64))), p.w.cell? ⟨b, off + ((k : Int) - 1).toNat * 2 + 1, none⟩ = some (.int .i64 p2) := fun p => below_cell p.h (alloc_cell r4 _)
                have c3' : ∀ p : Cls (Keep (wr.alloc (.cells #[.int .i64 e1, .int .i64 e2] 64))), p.w.cell? ⟨b, off + (k - 1) * 2 + 1, none⟩ = some (.int .i64 p2) := fun p => below_cell p.h (alloc_cell r4' _)
                have c4 : ∀ p : Cls (Keep (wr.alloc (.cells #[.int .i64 e1, .int .i64 e2] 64))), p.w.cell? ⟨wr.heap.size, 0, none⟩ = some (.int .i64 e1) := fun p => below_cell p.h (by simp [go_sem])
                have c5 : ∀ p : Cls (Keep (wr.alloc (.cells #[.int .i64 e1, .int .i64 e2] 64))), p.w.cell? ⟨wr.heap.size, 1, none⟩ = some (.int .i64 e2) := fun p => below_cell p.h (by simp [go_sem])
                repeat (go_big_quiet_step ((go_at_call 28; refine Calls.cls (refLess_any p1 p2 e1 e2 _))))
                refine wpQuiet_nil ?_
                rintro w1 ⟨⟨_, hw1⟩, rfl⟩
                go_wp2
                go_ret
                refine ⟨ret_int ?_, (HB2.out.alloc HB2.out.size _).trans (Below.mono hw1 (by have := HB2.out.size; simp; omega))⟩
                unfold Gr.check
                rw [HL.out, HO.out, HD.out, HPV.out]
                have hc0 : 0 ≤ cmpEdge (p1, p2) (e1, e2) := by have := HC.out; omega
                simp [edgesErr, HA.out, HA2.out, HE.out, hc0]
        · have HK := Lib.hid (show k = g.edges.length by omega)
          clear he3 hbox hbox1 hoke
          go_wp2
          go_ret
          refine ⟨ret_int ?_, HB2.out⟩
          unfold Gr.check
          rw [HL.out, HO.out, HK.out, List.drop_length]
          cases prevEdge g.edges g.edges.length <;> rfl
end Go.Proofs.Lg
