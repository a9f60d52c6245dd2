/-
  Part L2 of this claim's proof. Joined by merge.py from the texts of wip/tpl.
-/
import Derived.Test.YtclholnhkhjjaaaGreatGAB
set_option linter.unusedVariables false
set_option linter.unusedSimpArgs false
set_option linter.unnecessarySimpa false
namespace Go.Proofs.Lg
open Go Go.RowKit
def u8l (d : List Int) : List Value := d.map (Value.int .u8)
set_option maxRecDepth 100000 in
set_option maxHeartbeats 4000000 in
theorem digCompare_any (x y : List Int) (hx : Bytes x) (hy : Bytes y) (hlx : x.length = 32) (hly : y.length = 32) (w : World) :
   Calls Tryz.prog 67 #[.agg (u8l x).toArray, .agg (u8l y).toArray] w fun e w' => e = .returned (.int .i64 (lexCmp x y)) ∧ Below w.heap.size w w' := by
 have hA : ∀ (k : Nat) (a b : Int), x[k]? = some a → y[k]? = some b → ((w.alloc (.cells ((u8l x).toArray) 36)).alloc (.cells ((u8l y).toArray) 36)).cell? ⟨w.heap.size, k, none⟩ = some (Value.int .u8 a) ∧ ((w.alloc (.cells ((u8l x).toArray) 36)).alloc (.cells ((u8l y).toArray) 36)).cell? ⟨w.heap.size + 1, k, none⟩ = some (Value.int .u8 b) := by
   intro k a b ha hb
   have h1 : (u8l x).toArray[k]? = some (Value.int .u8 a) := by simp [u8l, ha]
   have h2 : (u8l y).toArray[k]? = some (Value.int .u8 b) := by simp [u8l, hb]
   exact ⟨by simp [go_sem, h1], by simp [go_sem, h2]⟩
 have HA := Lib.hid hA
 obtain ⟨X, hX⟩ : ∃ X, X = (u8l x).toArray := ⟨_, rfl⟩
 obtain ⟨Y, hY⟩ : ∃ Y, Y = (u8l y).toArray := ⟨_, rfl⟩
 rw [← hX, ← hY] at HA ⊢
 have HX := Lib.hid hx
 have HY := Lib.hid hy
 have HLX := Lib.hid hlx
 have HLY := Lib.hid hly
 clear hA hX hY hx hy hlx hly
 have hB0 : Hid (Below w.heap.size w ((w.alloc (.cells X 36)).alloc (.cells Y 36))) := ((Below.refl _ _).alloc (Nat.le_refl _) _).alloc (by simp) _
 go_enter Tryz.func67, Tryz.ntmps67
 go_wp2
 go_loopw [5] (fun i wr => ∃ k : Nat, k ≤ 32 ∧ i = .int .i64 k ∧ lexCmp x y = lexCmp (x.drop k) (y.drop k) ∧ Keep ((w.alloc (.cells X 36)).alloc (.cells Y 36)) wr) (fun i _ => 32 - (intOf i).toNat)
 case atStart => exact ⟨0, by omega, rfl, rfl, Keep.refl _⟩
 case round =>
   obtain ⟨k, hk, rfl, hor, hK⟩ := hrel
   have HO := Lib.hid hor
   have HK := Lib.hid hK
   have HBr : Hid (Below w.heap.size w wr) := hB0.out.trans (Below.mono hK hB0.out.size)
   clear hor
   by_cases hlt : k < 32
   · have hlx := HLX.out
     have hly := HLY.out
     obtain ⟨ha, hb⟩ := HA.out k _ _ (List.getElem?_eq_getElem (by omega)) (List.getElem?_eq_getElem (by omega))
     have HDX : Hid (x.drop k = x[k] :: x.drop (k + 1)) := List.drop_eq_getElem_cons (by omega)
     have HDY : Hid (y.drop k = y[k] :: y.drop (k + 1)) := List.drop_eq_getElem_cons (by omega)
     have hxr := HX.out _ (List.getElem_mem (l := x) (n := k) (by omega))
     have hyr := HY.out _ (List.getElem_mem (l := y) (n := k) (by omega))
     generalize x[k] = a at *
     generalize y[k] = b at *
     clear hlx hly
     have ca : ∀ p : Cls (Keep wr), p.w.cell? ⟨w.heap.size, k, none⟩ = some (.int .u8 a) := fun p => below_cell p.h (below_cell hK ha)
     have cb : ∀ p : Cls (Keep wr), p.w.cell? ⟨w.heap.size + 1, k, none⟩ = some (.int .u8 b) := fun p => below_cell p.h (below_cell hK hb)
     have hne : Nonempty (Cls (Keep wr)) := ⟨⟨wr, Keep.refl wr⟩⟩
     have b1 : (0 : Int) ≤ (k : Int) := by omega
     have b2 : (k : Int) < 32 := by omega
     clear ha hb
     by_cases h1 : a < b
     · have hd : decide (a < b) = true := by simp [h1]
       have H1 := Lib.hid h1
       clear h1
       go_wp2
       refine wp_region_cls (Keep wr) (by kernel_rfl) (by kernel_rfl) (Keep.drew wr) ?_
       repeat (go_big_quiet_step (fail))
       refine wpQuiet_nil ?_
       rintro w1 ⟨⟨_, hw1⟩, rfl⟩
       go_wp2
       go_ret
       refine ⟨ret_int ?_, HBr.out.trans (Below.mono hw1 HBr.out.size)⟩
       rw [HO.out, HDX.out, HDY.out]
       simp [lexCmp, H1.out]
     · by_cases h2 : b < a
       · have hd : decide (a < b) = false := by simp; omega
         have hd2 : decide (b < a) = true := by simp [h2]
         have H1 := Lib.hid h1
         have H2 := Lib.hid h2
         clear h1 h2
         go_wp2
         refine wp_region_cls (Keep wr) (by kernel_rfl) (by kernel_rfl) (Keep.drew wr) ?_
         repeat (go_big_quiet_step (fail))
         refine wpQuiet_nil ?_
         rintro w1 ⟨⟨_, hw1⟩, rfl⟩
         have ca2 : ∀ p : Cls (Keep w1), p.w.cell? ⟨w.heap.size, k, none⟩ = some (.int .u8 a) := fun p => ca ⟨p.w, hw1.trans p.h⟩
         have cb2 : ∀ p : Cls (Keep w1), p.w.cell? ⟨w.heap.size + 1, k, none⟩ = some (.int .u8 b) := fun p => cb ⟨p.w, hw1.trans p.h⟩
         have hne2 : Nonempty (Cls (Keep w1)) := ⟨⟨w1, Keep.refl w1⟩⟩
         clear ca cb hne
         go_wp2
         refine wp_region_cls (Keep w1) (by kernel_rfl) (by kernel_rfl) (Keep.drew w1) ?_
         repeat (go_big_quiet_step (fail))
         refine wpQuiet_nil ?_
         rintro w2 ⟨⟨_, hw2⟩, rfl⟩
         go_wp2
         go_ret
         refine ⟨ret_int ?_, HBr.out.trans (Below.mono (Keep.trans hw1 hw2) HBr.out.size)⟩
         rw [HO.out, HDX.out, HDY.out]
         simp [lexCmp, H1.out, H2.out]
       · have hd : decide (a < b) = false := by simp; omega
         have hd2 : decide (b < a) = false := by simp; omega
         have HE : Hid (a = b) := by show a = b; omega
         clear h1 h2
         go_wp2
         refine wp_region_cls (Keep wr) (by kernel_rfl) (by kernel_rfl) (Keep.drew wr) ?_
         repeat (go_big_quiet_step (fail))
         refine wpQuiet_nil ?_
         rintro w1 ⟨⟨_, hw1⟩, rfl⟩
         have ca2 : ∀ p : Cls (Keep w1), p.w.cell? ⟨w.heap.size, k, none⟩ = some (.int .u8 a) := fun p => ca ⟨p.w, hw1.trans p.h⟩
         have cb2 : ∀ p : Cls (Keep w1), p.w.cell? ⟨w.heap.size + 1, k, none⟩ = some (.int .u8 b) := fun p => cb ⟨p.w, hw1.trans p.h⟩
         have hne2 : Nonempty (Cls (Keep w1)) := ⟨⟨w1, Keep.refl w1⟩⟩
         clear ca cb hne
         go_wp2
         refine wp_region_cls (Keep w1) (by kernel_rfl) (by kernel_rfl) (Keep.drew w1) ?_
         repeat (go_big_quiet_step (fail))
         refine wpQuiet_nil ?_
         rintro w2 ⟨⟨_, hw2⟩, rfl⟩
         go_wp2
         go_roundw
         case rel =>
           refine ⟨k + 1, by omega, by go_num, ?_, HK.out.trans (hw1.trans hw2)⟩
           rw [HO.out, HDX.out, HDY.out, HE.out]
           simp [lexCmp]
         case measure => simp [intOf]; omega
   · have hk32 : k = 32 := by omega
     subst hk32
     go_wp2
     go_ret
     refine ⟨ret_int ?_, HBr.out⟩
     rw [HO.out, List.drop_eq_nil_of_le (by rw [HLX.out]; omega), List.drop_eq_nil_of_le (by rw [HLY.out]; omega)]
     rfl
theorem size_Digest : (Tryz.prog.info? 36).map (·.size) = some 32 := by kernel_rfl
theorem idCells_digest {w : World} {b : Nat} {d : List Int} {n : Int} (_h : d.length = 32) (hc : ∀ j u, (idCells d n)[j]? = some u → w.cell? ⟨b, j, none⟩ = some u) : w.rangeAt b 0 (u8l d) := by
 intro j u hu
 rw [Nat.zero_add]
 refine hc j u ?_
 have hu' : (d.map (Value.int .u8))[j]? = some u := by simpa [u8l] using hu
 have hj : j < d.length := by have := (List.getElem?_eq_some_iff.1 hu').1; simpa using this
 simp only [idCells, List.getElem?_toArray]
 rw [List.getElem?_append_left (by simpa using hj)]
 exact hu'
set_option maxRecDepth 100000 in
set_option maxHeartbeats 4000000 in
theorem refCompare_any (x y : List Int) (n m : Int) (hx : Bytes x) (hy : Bytes y) (hlx : x.length = 32) (hly : y.length = 32) (w : World) :
   Calls Tryz.prog 32 #[.agg (idCells x n), .agg (idCells y m)] w fun e w' => e = .returned (.int .i64 (cmpId x n y m)) ∧ Below w.heap.size w w' := by
 obtain ⟨X, hX⟩ : ∃ X, X = idCells x n := ⟨_, rfl⟩
 obtain ⟨Y, hY⟩ : ∃ Y, Y = idCells y m := ⟨_, rfl⟩
 have r1 : ((w.alloc (.cells X 38)).alloc (.cells Y 38)).rangeAt w.heap.size 0 (u8l x) := idCells_digest (n := n) hlx fun j u hu => by simp [go_sem, hu, hX]
 have r2 : ((w.alloc (.cells X 38)).alloc (.cells Y 38)).rangeAt (w.heap.size + 1) 0 (u8l y) := idCells_digest (n := m) hly fun j u hu => by simp [go_sem, hu, hY]
 have n1 : ((w.alloc (.cells X 38)).alloc (.cells Y 38)).cell? ⟨w.heap.size, 32, none⟩ = some (.int .i64 n) := by have := idCells_last n hlx; rw [← hX] at this; simp [go_sem, this]
 have n2 : ((w.alloc (.cells X 38)).alloc (.cells Y 38)).cell? ⟨w.heap.size + 1, 32, none⟩ = some (.int .i64 m) := by have := idCells_last m hly; rw [← hY] at this; simp [go_sem, this]
 have hB0 : Hid (Below w.heap.size w ((w.alloc (.cells X 38)).alloc (.cells Y 38))) := ((Below.refl _ _).alloc (Nat.le_refl _) _).alloc (by simp) _
 have hu := Tryz.underlying36
 have hi1 : (Tryz.prog.info? 36).map (·.size) = some (u8l x).length := by rw [size_Digest]; simp [u8l, hlx]
 have hi2 : (Tryz.prog.info? 36).map (·.size) = some (u8l y).length := by rw [size_Digest]; simp [u8l, hly]
 have HD := Lib.hid (digCompare_any x y hx hy hlx hly ((w.alloc (.cells X 38)).alloc (.cells Y 38)))
 have s0 : w.heap.size < ((w.alloc (.cells X 38)).alloc (.cells Y 38)).heap.size := by simp; omega
 have s1 : w.heap.size + 1 < ((w.alloc (.cells X 38)).alloc (.cells Y 38)).heap.size := by simp
 rw [← hX, ← hY]
 clear hX hY hx hy hlx hly
 by_cases hl : lexCmp x y = 0
 · have hl1 : (lexCmp x y == 0) = true := by simp [hl]
   have hl2 : (lexCmp x y != 0) = false := by simp [hl]
   have HC : Hid (cmpId x n y m = cmpInt n m) := by show _ = _; unfold cmpId; rw [if_pos hl]
   clear hl
   rw [HC.out]
   by_cases h1 : n < m
   · have hd : decide (n < m) = true := by simp [h1]
     have HR : Hid (cmpInt n m = -1) := by show _ = _; unfold cmpInt; rw [if_pos h1]
     clear h1
     go_enter Tryz.func32, Tryz.ntmps32
     go_wp2_with (first | (refine wpList_load_mid rfl _ _ rfl _ _ rfl _ _ r1 hu rfl hi1 ?_; simp only [Act.put, List.setIfInBounds_toArray, List.set_cons_zero, List.set_cons_succ]) | (refine wpList_load_mid rfl _ _ rfl _ _ rfl _ _ r2 hu rfl hi2 ?_; simp only [Act.put, List.setIfInBounds_toArray, List.set_cons_zero, List.set_cons_succ]) | fail)
     refine HD.out.mono ?_
     rintro e w1 ⟨rfl, hb1⟩
     have m1 : w1.cell? ⟨w.heap.size, 32, none⟩ = some (.int .i64 n) := below_cell hb1 n1
     have m2 : w1.cell? ⟨w.heap.size + 1, 32, none⟩ = some (.int .i64 m) := below_cell hb1 n2
     have l1 := cell_lt m1
     have l2 := cell_lt m2
     have HB1 : Hid (Below w.heap.size w w1) := hB0.out.trans (Below.mono hb1 hB0.out.size)
     clear r1 r2 n1 n2 hb1 s0 s1 hu hi1 hi2
     go_wp2
     go_ret
     exact ⟨ret_int HR.out.symm, HB1.out⟩
   · by_cases h2 : m < n
     · have hd : decide (n < m) = false := by simp; omega
       have hd2 : decide (m < n) = true := by simp [h2]
       have HR : Hid (cmpInt n m = 1) := by show _ = _; unfold cmpInt; rw [if_neg h1, if_pos h2]
       clear h1 h2
       go_enter Tryz.func32, Tryz.ntmps32
       go_wp2_with (first | (refine wpList_load_mid rfl _ _ rfl _ _ rfl _ _ r1 hu rfl hi1 ?_; simp only [Act.put, List.setIfInBounds_toArray, List.set_cons_zero, List.set_cons_succ]) | (refine wpList_load_mid rfl _ _ rfl _ _ rfl _ _ r2 hu rfl hi2 ?_; simp only [Act.put, List.setIfInBounds_toArray, List.set_cons_zero, List.set_cons_succ]) | fail)
       refine HD.out.mono ?_
       rintro e w1 ⟨rfl, hb1⟩
       have m1 : w1.cell? ⟨w.heap.size, 32, none⟩ = some (.int .i64 n) := below_cell hb1 n1
       have m2 : w1.cell? ⟨w.heap.size + 1, 32, none⟩ = some (.int .i64 m) := below_cell hb1 n2
       have l1 := cell_lt m1
       have l2 := cell_lt m2
       have HB1 : Hid (Below w.heap.size w w1) := hB0.out.trans (Below.mono hb1 hB0.out.size)
       clear r1 r2 n1 n2 hb1 s0 s1 hu hi1 hi2
       go_wp2
       go_ret
       exact ⟨ret_int HR.out.symm, HB1.out⟩
     · have hd : decide (n < m) = false := by simp; omega
       have hd2 : decide (m < n) = false := by simp; omega
       have HR : Hid (cmpInt n m = 0) := by show _ = _; unfold cmpInt; rw [if_neg h1, if_neg h2]
       clear h1 h2
       go_enter Tryz.func32, Tryz.ntmps32
       go_wp2_with (first | (refine wpList_load_mid rfl _ _ rfl _ _ rfl _ _ r1 hu rfl hi1 ?_; simp only [Act.put, List.setIfInBounds_toArray, List.set_cons_zero, List.set_cons_succ]) | (refine wpList_load_mid rfl _ _ rfl _ _ rfl _ _ r2 hu rfl hi2 ?_; simp only [Act.put, List.setIfInBounds_toArray, List.set_cons_zero, List.set_cons_succ]) | fail)
       refine HD.out.mono ?_
       rintro e w1 ⟨rfl, hb1⟩
       have m1 : w1.cell? ⟨w.heap.size, 32, none⟩ = some (.int .i64 n) := below_cell hb1 n1
       have m2 : w1.cell? ⟨w.heap.size + 1, 32, none⟩ = some (.int .i64 m) := below_cell hb1 n2
       have l1 := cell_lt m1
       have l2 := cell_lt m2
       have HB1 : Hid (Below w.heap.size w w1) := hB0.out.trans (Below.mono hb1 hB0.out.size)
       clear r1 r2 n1 n2 hb1 s0 s1 hu hi1 hi2
       go_wp2
       go_ret
       exact ⟨ret_int HR.out.symm, HB1.out⟩
 · have hl1 : (lexCmp x y == 0) = false := by simp [hl]
   have hl2 : (lexCmp x y != 0) = true := by simp [hl]
   have HC : Hid (cmpId x n y m = lexCmp x y) := by show _ = _; unfold cmpId; rw [if_neg hl]
   clear hl
   rw [HC.out]
   go_enter Tryz.func32, Tryz.ntmps32
   go_wp2_with (first | (refine wpList_load_mid rfl _ _ rfl _ _ rfl _ _ r1 hu rfl hi1 ?_; simp only [Act.put, List.setIfInBounds_toArray, List.set_cons_zero, List.set_cons_succ]) | (refine wpList_load_mid rfl _ _ rfl _ _ rfl _ _ r2 hu rfl hi2 ?_; simp only [Act.put, List.setIfInBounds_toArray, List.set_cons_zero, List.set_cons_succ]) | fail)
   refine HD.out.mono ?_
   rintro e w1 ⟨rfl, hb1⟩
   have m1 : w1.cell? ⟨w.heap.size, 32, none⟩ = some (.int .i64 n) := below_cell hb1 n1
   have m2 : w1.cell? ⟨w.heap.size + 1, 32, none⟩ = some (.int .i64 m) := below_cell hb1 n2
   have l1 := cell_lt m1
   have l2 := cell_lt m2
   have HB1 : Hid (Below w.heap.size w w1) := hB0.out.trans (Below.mono hb1 hB0.out.size)
   clear r1 r2 n1 n2 hb1 s0 s1 hu hi1 hi2
   go_wp2
   go_ret
   exact ⟨rfl, HB1.out⟩
def lessE (p e : Int × Int) : Bool := decide (p.1 < e.1) || (decide (p.1 = e.1) && decide (p.2 < e.2))
theorem lessE_cmp (p e : Int × Int) : lessE p e = decide (cmpEdge p e < 0) := by
 obtain ⟨a, b⟩ := p
 obtain ⟨c, d⟩ := e
 unfold lessE cmpEdge cmpInt
 dsimp only
 rw [Bool.eq_iff_iff]
 simp only [Bool.or_eq_true, Bool.and_eq_true, decide_eq_true_eq]
 by_cases h1 : a < c
 · simp [orInt, h1]
 · by_cases h2 : c < a
   · simp [orInt, h1, h2]; omega
   · have : a = c := by omega
     subst this
     by_cases h3 : b < d
     · simp [orInt, h3]
     · by_cases h4 : d < b
       · simp [orInt, h3, h4]
       · simp [orInt, h3, h4]
set_option maxRecDepth 100000 in
set_option maxHeartbeats 2000000 in
theorem refLess_any (a b c d : Int) (w : World) :
   Calls Tryz.prog 76 #[.agg #[.int .i64 a, .int .i64 b], .agg #[.int .i64 c, .int .i64 d]] w fun e w' => e = .returned (.bool (lessE (a, b) (c, d))) ∧ Below w.heap.size w w' := by
 have hB0 : Hid (Below w.heap.size w ((w.alloc (.cells #[.int .i64 a, .int .i64 b] 74)).alloc (.cells #[.int .i64 c, .int .i64 d] 74))) := ((Below.refl _ _).alloc (Nat.le_refl _) _).alloc (by simp) _
 by_cases h1 : a < c
 · have hd : decide (a < c) = true := by simp [h1]
   have HR : Hid (lessE (a, b) (c, d) = true) := by show _ = _; simp [lessE, h1]
   clear h1
   go_enter Tryz.func76, Tryz.ntmps76
   go_wp2
   go_ret
   rw [HR.out]
   exact ⟨rfl, hB0.out⟩
 · by_cases h2 : a = c
   · have hd : decide (a < c) = false := by simp; omega
     have hd2 : (a == c) = true := by simp [h2]
     have HR : Hid (lessE (a, b) (c, d) = decide (b < d)) := by show _ = _; simp [lessE, h2]
     clear h1 h2
     rw [HR.out]
     go_enter Tryz.func76, Tryz.ntmps76
     go_wp2
     all_goals (go_ret; exact ⟨rfl, hB0.out⟩)
   · have hd : decide (a < c) = false := by simp; omega
     have hd2 : (a == c) = false := by simp [h2]
     have HR : Hid (lessE (a, b) (c, d) = false) := by show _ = _; simp [lessE, h1, h2]
     clear h1 h2
     go_enter Tryz.func76, Tryz.ntmps76
     go_wp2
     go_ret
     rw [HR.out]
     exact ⟨rfl, hB0.out⟩
end Go.Proofs.Lg
