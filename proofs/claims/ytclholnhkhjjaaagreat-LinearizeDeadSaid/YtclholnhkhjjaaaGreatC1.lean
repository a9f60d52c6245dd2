/-
  Part C1 of this claim's proof. Joined by merge.py from the texts of wip/tpl.
-/
import Derived.Test.YtclholnhkhjjaaaGreatProg
import Derived.Test.YtclholnhkhjjaaaGreatBase
import Derived.Deep.RegionHeld3
import Derived.Deep.RegionWith
import Derived.Deep.DrawnRows
set_option linter.unusedVariables false
set_option linter.unusedSimpArgs false
set_option linter.unnecessarySimpa false
namespace Go.Proofs.Lg
open Go Go.RowKit
attribute [local go_sem ↓] Go.wp_at_zero Go.wp_at_succ

theorem run_bytealgCompare (w : World) (b b' off off' c c' : Nat) (x y : List Int) (hx : Bytes x) (hy : Bytes y) (hl : x.length = y.length)
    (h1 : ∀ i z, x[i]? = some z → w.cell? ⟨b, off + i, none⟩ = some (Value.int .u8 z)) (h2 : ∀ i z, y[i]? = some z → w.cell? ⟨b', off' + i, none⟩ = some (Value.int .u8 z)) :
    (Extern.BytealgCompare.compare #[.slice (some ⟨b, off, none⟩) x.length c, .slice (some ⟨b', off', none⟩) y.length c']).run Tryz.prog w = .ok (.int .i64 (lexCmp x y)) w := by
  have e1 := run_loadBytes (P := Tryz.prog) w b x off .empty h1
  have e2 := run_loadBytes (P := Tryz.prog) w b' y off' .empty h2
  have hc : ∀ a b : Value, Extern.BytealgCompare.compare #[a, b] = (Extern.Bytes.bytesOf a >>= fun x => Extern.Bytes.bytesOf b >>= fun y => pure (goInt (Extern.BytealgCompare.cmp x y))) := fun _ _ => rfl
  rw [hc]
  simp only [Extern.Bytes.bytesOf, Sem.run_bind, e1, e2, Result.andThen_ok, Sem.run_pure]
  have : ∀ d : List Int, (⟨ByteArray.empty.data ++ (toBA d).data⟩ : ByteArray) = toBA d := fun d => by cases h : toBA d; simp
  rw [this, this, cmp_find x y hx hy hl]
  rfl

set_option maxHeartbeats 400000 in
set_option maxRecDepth 100000 in
theorem bytesCompare_any (w : World) (b b' off off' n c c' : Nat) (x y : List Int) (hx : Bytes x) (hy : Bytes y) (hn : x.length = n) (hn' : y.length = n)
    (h1 : ∀ i z, x[i]? = some z → w.cell? ⟨b, off + i, none⟩ = some (Value.int .u8 z)) (h2 : ∀ i z, y[i]? = some z → w.cell? ⟨b', off' + i, none⟩ = some (Value.int .u8 z)) :
    Calls Tryz.prog 119 #[.slice (some ⟨b, off, none⟩) n c, .slice (some ⟨b', off', none⟩) n c'] w fun e w' => e = .returned (.int .i64 (lexCmp x y)) ∧ w = w' := by
  have e := run_bytealgCompare w b b' off off' c c' x y hx hy (hn.trans hn'.symm) h1 h2
  rw [hn, hn'] at e
  have E := Lib.hid e
  clear e h1 h2 hn hn'
  go_enter Tryz.func119, Tryz.ntmps119
  go_wp2
  rw [run_callFunc_extern Tryz.func142 (by kernel_rfl) (by kernel_rfl) (by kernel_rfl) (e := Extern.BytealgCompare.compare) (by kernel_rfl), E.out]
  simp only [Result.andThen]
  rw [Oper.upon_value]
  go_wp2
  go_ret
  exact ⟨rfl, rfl⟩

set_option maxHeartbeats 400000 in
theorem isNaN_any (a : Int) (w : World) : Calls Tryz.prog 143 #[.int .i64 a] w fun e w' => e = .returned (.bool false) ∧ w = w' := by
  go_enter Tryz.func143, Tryz.ntmps143
  go_wp2
  go_ret
  simp

set_option maxHeartbeats 400000 in
theorem cmpCompare_any (a b : Int) (w : World) : Calls Tryz.prog 120 #[.int .i64 a, .int .i64 b] w fun e w' => e = .returned (.int .i64 (cmpInt a b)) ∧ w = w' := by
  unfold cmpInt
  by_cases h1 : a < b
  · go_enter Tryz.func120, Tryz.ntmps120
    go_wp2_with (go_at_call 143; refine (isNaN_any _ _).mono ?_; rintro e w' ⟨rfl, rfl⟩)
    go_ret
    simp
  · by_cases h2 : b < a
    · go_enter Tryz.func120, Tryz.ntmps120
      go_wp2_with (go_at_call 143; refine (isNaN_any _ _).mono ?_; rintro e w' ⟨rfl, rfl⟩)
      go_ret
      simp
    · go_enter Tryz.func120, Tryz.ntmps120
      go_wp2_with (go_at_call 143; refine (isNaN_any _ _).mono ?_; rintro e w' ⟨rfl, rfl⟩)
      go_ret
      simp

theorem two_blocks_cell (w : World) (A B : Array Value) (t u q : Nat) (i : Nat) (v : Value) :
    (A[i]? = some v → (((w.alloc (.cells A t)).alloc (.cells B u)).drewN q).cell? ⟨w.heap.size, 0 + i, none⟩ = some v) ∧ (B[i]? = some v → (((w.alloc (.cells A t)).alloc (.cells B u)).drewN q).cell? ⟨w.heap.size + 1, 0 + i, none⟩ = some v) := by
  constructor
  · intro h
    simp [go_sem, h]
  · intro h
    have e : w.heap.size + 1 = (w.alloc (.cells A t)).heap.size := by simp
    rw [e]
    simp [go_sem, h]

set_option maxHeartbeats 400000 in
set_option maxRecDepth 100000 in
theorem Compare_any (x y : List Int) (n m : Int) (hx : Bytes x) (hy : Bytes y) (hlx : x.length = 32) (hly : y.length = 32) (w : World) :
    Calls Tryz.prog 92 #[.agg (idCells x n), .agg (idCells y m)] w fun e w' => e = .returned (.int .i64 (cmpId x n y m)) ∧ Below w.heap.size w w' := by
  have sx := idCells_size n hlx
  have sy := idCells_size m hly
  have lx : ∀ h, (idCells x n)[32]'h = Value.int .i64 n := fun h => (Array.getElem?_eq_some_iff.1 (idCells_last n hlx)).2
  have ly : ∀ h, (idCells y m)[32]'h = Value.int .i64 m := fun h => (Array.getElem?_eq_some_iff.1 (idCells_last m hly)).2
  unfold cmpId
  by_cases hl : lexCmp x y = 0
  · have hl1 : (lexCmp x y == 0) = true := by simp [hl]
    have hl2 : (lexCmp x y != 0) = false := by simp [hl]
    rw [if_pos hl]
    clear hl
    go_enter Tryz.func92, Tryz.ntmps92
    go_wp2
    go_quiet ((go_at_call 119; refine Calls.quiet_of_same ((bytesCompare_any _ _ _ _ _ 32 _ _ x y hx hy hlx hly ?_ ?_).mono fun _ _ h => ⟨h.1, h.2.symm⟩); (intro i z hz; exact (two_blocks_cell _ _ _ _ _ _ i _).1 (idCells_byte n i z hz)); (intro i z hz; exact (two_blocks_cell _ _ _ _ _ _ i _).2 (idCells_byte m i z hz))))
    go_wp2_with (go_at_call 120; refine (cmpCompare_any _ _ _).mono ?_; rintro e w' ⟨rfl, rfl⟩)
    go_ret
    exact ⟨rfl, bdrewN (((Below.refl _ _).alloc (Nat.le_refl _) _).alloc (by simp) _) _⟩
  · have hl1 : (lexCmp x y == 0) = false := by simp [hl]
    have hl2 : (lexCmp x y != 0) = true := by simp [hl]
    rw [if_neg hl]
    clear hl
    go_enter Tryz.func92, Tryz.ntmps92
    go_wp2
    go_quiet ((go_at_call 119; refine Calls.quiet_of_same ((bytesCompare_any _ _ _ _ _ 32 _ _ x y hx hy hlx hly ?_ ?_).mono fun _ _ h => ⟨h.1, h.2.symm⟩); (intro i z hz; exact (two_blocks_cell _ _ _ _ _ _ i _).1 (idCells_byte n i z hz)); (intro i z hz; exact (two_blocks_cell _ _ _ _ _ _ i _).2 (idCells_byte m i z hz))))
    go_wp2
    go_ret
    exact ⟨rfl, bdrewN (((Below.refl _ _).alloc (Nat.le_refl _) _).alloc (by simp) _) _⟩
end Go.Proofs.Lg
