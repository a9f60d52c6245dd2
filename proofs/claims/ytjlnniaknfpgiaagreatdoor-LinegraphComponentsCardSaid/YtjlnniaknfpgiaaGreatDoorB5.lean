/-
  Part B5 of this claim's proof. Joined by merge.py from the texts of wip/tpl.
-/
import Derived.Test.YtjlnniaknfpgiaaGreatDoorGN
set_option linter.unusedVariables false
set_option linter.unusedSimpArgs false
set_option linter.unnecessarySimpa false
set_option linter.unusedVariables false
namespace Go.Proofs.Lh
open Go Go.Ab Go.Bb Go.RowKit Go.Proofs.Lg

theorem setCell_self {w : World} {b : Nat} {p v : Value} {t : TypeId} (hbk : w.heap[b]? = some (.cells #[p, v] t (0, 0))) : w.setCell ⟨b, 0, none⟩ p = w := by
  rw [setCell_eq_setRow w b 0 _ t (0, 0) p hbk]
  exact setRow_self w b _ t (0, 0) hbk

theorem copyCheck_any {b : Nat} {w : World} {p v : Value} (hbk : w.heap[b]? = some (.cells #[p, v] 301 (0, 0))) (hp : p = .pointer none ∨ p = self b) :
    Calls Tryz.prog 258 #[.pointer (some ⟨b, 0, none⟩)] w fun e w' => e = .returned (.tuple #[]) ∧ w' = w.setCell ⟨b, 0, none⟩ (self b) := by
  have h0 : w.cell? ⟨b, 0, none⟩ = some p := by rw [Go.Lib.cell_of_heap hbk]; rfl
  rcases hp with rfl | rfl
  · exact copyCheck_fresh b w h0 (by simp [World.shape?, hbk]) (by simp [World.frozen?, hbk])
  · rw [setCell_self hbk]
    exact copyCheck_used b w h0

theorem setCell_heap {w : World} {b : Nat} {p v : Value} {t : TypeId} (hbk : w.heap[b]? = some (.cells #[p, v] t (0, 0))) (u : Value) : (w.setCell ⟨b, 0, none⟩ u).heap[b]? = some (.cells #[u, v] t (0, 0)) := by
  rw [setCell_eq_setRow w b 0 _ t (0, 0) u hbk]
  exact setRow_heap w b _ _ t (0, 0) hbk
theorem setCell_heap1 {w : World} {b : Nat} {p v : Value} {t : TypeId} (hbk : w.heap[b]? = some (.cells #[p, v] t (0, 0))) (u : Value) : (w.setCell ⟨b, 1, none⟩ u).heap[b]? = some (.cells #[p, u] t (0, 0)) := by
  rw [setCell_eq_setRow w b 1 _ t (0, 0) u hbk]
  exact setRow_heap w b _ _ t (0, 0) hbk
theorem setCell_other {w : World} {b i j : Nat} {u : Value} (h : j ≠ b) : (w.setCell ⟨b, i, none⟩ u).heap[j]? = w.heap[j]? := Below.heap_setCell _ _ _ _ h

/-- What an append onto a builder's buffer comes to. -/
def BufApp (w1 w2 : World) (B n m : Nat) (v v' : Value) (xs : List Value) : Prop := (m = 0 ∧ v' = v ∧ w2 = w1) ∨ (0 < m ∧ Appended w1 w2 B 5 1 n m v v' xs)

theorem BufApp.kept {w1 w2 : World} {B n m b : Nat} {v v' : Value} {xs : List Value} (h : BufApp w1 w2 B n m v v' xs) (hne : v.ownBlock ≠ some b) (hb : b < w1.heap.size) : w2.heap[b]? = w1.heap[b]? := by
  rcases h with ⟨_, _, rfl⟩ | ⟨_, _, _, ⟨g, h1, h2, h3⟩ | ⟨h1, h2, h3⟩⟩
  · rfl
  · exact h3.block b hb (fun e => hne (by rw [h2]; exact e.symm))
  · exact h3.block b hb (by simp)
theorem BufApp.form {w1 w2 : World} {B n m : Nat} {v v' : Value} {xs : List Value} (h : BufApp w1 w2 B n m v v' xs) (hv : ∃ a n c, v = .slice a n c) : ∃ a n c, v' = .slice a n c := by
  rcases h with ⟨_, rfl, _⟩ | ⟨_, h1, _⟩
  · exact hv
  · obtain ⟨a, c, h⟩ := ownsG_form h1; exact ⟨a, _, c, h⟩

theorem info_byte : ∃ i, Tryz.prog.info? 5 = some i ∧ i.zero = some (.int .u8 0) ∧ i.size = 1 ∧ i.bytes = 1 := by
  obtain ⟨i, hi, h⟩ := Option.map_eq_some_iff.1 (show (Tryz.prog.info? 5).map (fun i => (i.zero, i.size, i.bytes)) = some (some (.int .u8 0), 1, 1) by kernel_rfl)
  simp only [Prod.mk.injEq] at h
  exact ⟨i, hi, h⟩

theorem bufApp (w1 : World) (B : Nat) (tx : TypeId) {n m : Nat} {v x : Value} {xs news : List Value} (hown : ownsG w1 B 5 1 v n xs) (hs : Src Tryz.prog 1 tx x m news w1) (hlen : n + m ≤ 140737488355328) (hB : B ≤ w1.heap.size) :
    ∃ v' w2, (∀ ty, (Builtin.append_ #[108, tx] ty #[v, x]).run Tryz.prog w1 = .ok v' w2) ∧ BufApp w1 w2 B n m v v' (xs ++ news) := by
  obtain ⟨i, hi, hz, h1, h2⟩ := info_byte
  have hown' : ownsG w1 B 5 i.size v n xs := by rw [h1]; exact hown
  have hs' : Src Tryz.prog i.size tx x m news w1 := by rw [h1]; exact hs
  obtain ⟨v', w2, hr, hc, _⟩ := run_appS (P := Tryz.prog) w1 B 108 tx 108 5 i (.int .u8 0) Tryz.underlying108 hi hz (by rw [h1]; rfl) v n xs hown' x m news hs' (by omega) (by rw [h2]; omega) hB
  rw [h1] at hc
  refine ⟨v', w2, fun ty => ?_, hc⟩
  have : ∀ ty, Builtin.append_ #[108, tx] ty #[v, x] = Builtin.append_ #[108, tx] 108 #[v, x] := fun ty => rfl
  rw [this]; exact hr

/-- What a write to a builder comes to. -/
def Written (w w' : World) (B b n m : Nat) (v : Value) (xs : List Value) : Prop :=
  ∃ v' w2, BufApp (w.setCell ⟨b, 0, none⟩ (self b)) w2 B n m v v' xs ∧ w' = w2.setCell ⟨b, 1, none⟩ v'

set_option maxHeartbeats 1000000 in
set_option maxRecDepth 100000 in
theorem WriteString_any {B b n : Nat} {w : World} {p v : Value} {xs : List Value} (s : ByteArray) (hbk : w.heap[b]? = some (.cells #[p, v] 301 (0, 0))) (hp : p = .pointer none ∨ p = self b) (hown : ownsG w B 5 1 v n xs) (hne : v.ownBlock ≠ some b)
    (hlen : n + s.size ≤ 140737488355328) (hB : B ≤ w.heap.size) :
    Calls Tryz.prog 253 #[.pointer (some ⟨b, 0, none⟩), .string s] w fun e w' => e = .returned (.tuple #[.int .i64 s.size, .nilIface]) ∧ Written w w' B b n s.size v (xs ++ byteCells s) := by
  have hcc := copyCheck_any hbk hp
  have hb1 := setCell_heap hbk (self b)
  have hlt : b < w.heap.size := (Array.getElem?_eq_some_iff.1 hbk).1
  have hsz : (w.setCell ⟨b, 0, none⟩ (self b)).heap.size = w.heap.size := by rw [setCell_eq_setRow w b 0 _ _ (0, 0) _ hbk, setRow_size]
  have hown1 : ownsG (w.setCell ⟨b, 0, none⟩ (self b)) B 5 1 v n xs := ownsG_same hown fun g hg => setCell_other (fun e => hne (by rw [hg, e]))
  obtain ⟨v', w2, hr, hc⟩ := bufApp (w.setCell ⟨b, 0, none⟩ (self b)) B 9 hown1 (Src.ofString (P := Tryz.prog) _ Tryz.underlying9 s) hlen (by omega)
  have hb2 := (hc.kept hne (by omega)).trans hb1
  have hform := hc.form (by obtain ⟨a, c, h⟩ := ownsG_form hown; exact ⟨a, _, c, h⟩)
  have W : Hid (Written w (w2.setCell ⟨b, 1, none⟩ v') B b n s.size v (xs ++ byteCells s)) := Go.Lib.hid ⟨v', w2, hc, rfl⟩
  generalize w.setCell ⟨b, 0, none⟩ (self b) = w1 at hcc hb1 hr
  have c1 : w1.cell? ⟨b, 1, none⟩ = some v := by rw [Go.Lib.cell_of_heap hb1]; rfl
  have d1 : w2.cell? ⟨b, 1, none⟩ = some v := by rw [Go.Lib.cell_of_heap hb2]; rfl
  have f1 : w2.frozen? ⟨b, 1, none⟩ = false := Go.Lib.frozen_of_heap hb2 1
  obtain ⟨ao, n', cap, rfl⟩ := hform
  have HCC := Go.Lib.hid hcc
  clear hcc hc hown1 hown hp hbk hb1 hb2
  go_enter Tryz.func253, Tryz.ntmps253
  go_wp2_with (go_at_call 258; refine HCC.out.mono ?_)
  rintro e w' ⟨rfl, rfl⟩
  go_wp2_with (at_builtin; refine Go.Lib.wpList_append_run _ rfl _ _ _ _ rfl _ _ rfl rfl _ _ (hr _) ?_)
  go_wp2
  go_ret2
  exact ⟨rfl, W.out⟩

/-- A byte written. -/
def WrittenB (w w' : World) (B b n : Nat) (c : Int) (v : Value) (xs : List Value) : Prop :=
  ∃ v' w2, BufApp ((w.setCell ⟨b, 0, none⟩ (self b)).alloc (.cells #[.int .u8 c] 5)) w2 B n 1 v v' xs ∧ w' = w2.setCell ⟨b, 1, none⟩ v'

set_option maxHeartbeats 1000000 in
set_option maxRecDepth 100000 in
theorem WriteByte_any {B b n : Nat} {w : World} {p v : Value} {xs : List Value} (c : Int) (hbk : w.heap[b]? = some (.cells #[p, v] 301 (0, 0))) (hp : p = .pointer none ∨ p = self b) (hown : ownsG w B 5 1 v n xs) (hne : v.ownBlock ≠ some b) (hnl : ∀ g, v.ownBlock = some g → g < w.heap.size)
    (hlen : n + 1 ≤ 140737488355328) (hB : B ≤ w.heap.size) :
    Calls Tryz.prog 254 #[.pointer (some ⟨b, 0, none⟩), .int .u8 c] w fun e w' => e = .returned .nilIface ∧ WrittenB w w' B b n c v (xs ++ [.int .u8 c]) := by
  have hcc := copyCheck_any hbk hp
  have hb1 := setCell_heap hbk (self b)
  have hlt : b < w.heap.size := (Array.getElem?_eq_some_iff.1 hbk).1
  have hsz : (w.setCell ⟨b, 0, none⟩ (self b)).heap.size = w.heap.size := by rw [setCell_eq_setRow w b 0 _ _ (0, 0) _ hbk, setRow_size]
  have hown1 : ownsG (w.setCell ⟨b, 0, none⟩ (self b)) B 5 1 v n xs := ownsG_same hown fun g hg => setCell_other (fun e => hne (by rw [hg, e]))
  have hown1 : ownsG ((w.setCell ⟨b, 0, none⟩ (self b)).alloc (.cells #[.int .u8 c] 5)) B 5 1 v n xs := ownsG_same hown1 fun g hg => Go.Lib.alloc_old _ _ g (by rw [hsz]; exact hnl g hg)
  have hnew : ((w.setCell ⟨b, 0, none⟩ (self b)).alloc (.cells #[.int .u8 c] 5)).heap[w.heap.size]? = some (.cells #[.int .u8 c] 5 (0, 0)) := by
    have := heap_alloc_new (w.setCell ⟨b, 0, none⟩ (self b)) (.cells #[.int .u8 c] 5)
    rw [hsz] at this; exact this
  obtain ⟨v', w2, hr, hc⟩ := bufApp ((w.setCell ⟨b, 0, none⟩ (self b)).alloc (.cells #[.int .u8 c] 5)) B 108 hown1 (Src.ofSlice (P := Tryz.prog) _ Tryz.underlying108 ⟨w.heap.size, 0, none⟩ 1 1 [.int .u8 c] rfl (fun j u hj => by
    match j, hj with
    | 0, hj =>
      simp at hj; subst hj
      have e0 : (⟨w.heap.size, 0, none⟩ : Addr).add 0 = ⟨w.heap.size, 0, none⟩ := by simp [Addr.add]
      rw [e0, cell_of_row _ w.heap.size 0 _ _ _ hnew]; rfl) (fun u hu => by simp at hu; subst hu; rfl)) hlen (by simp; omega)
  have hb1' : ((w.setCell ⟨b, 0, none⟩ (self b)).alloc (.cells #[.int .u8 c] 5)).heap[b]? = some (.cells #[self b, v] 301 (0, 0)) := (Go.Lib.alloc_old _ _ b (by omega)).trans hb1
  have hb2 := (hc.kept hne (by simp; omega)).trans hb1'
  have hform := hc.form (by obtain ⟨a, c, h⟩ := ownsG_form hown; exact ⟨a, _, c, h⟩)
  have W : Hid (WrittenB w (w2.setCell ⟨b, 1, none⟩ v') B b n c v (xs ++ [.int .u8 c])) := Go.Lib.hid ⟨v', w2, hc, rfl⟩
  rw [← hsz] at hr
  generalize w.setCell ⟨b, 0, none⟩ (self b) = w1 at hcc hb1 hr
  have c1 : w1.cell? ⟨b, 1, none⟩ = some v := by rw [Go.Lib.cell_of_heap hb1]; rfl
  have d1 : w2.cell? ⟨b, 1, none⟩ = some v := by rw [Go.Lib.cell_of_heap hb2]; rfl
  have f1 : w2.frozen? ⟨b, 1, none⟩ = false := Go.Lib.frozen_of_heap hb2 1
  obtain ⟨ao, n', cap, rfl⟩ := hform
  have HCC := Go.Lib.hid hcc
  clear hcc hc hown1 hown hp hbk hb1 hb2 hb1' hnew
  go_enter Tryz.func254, Tryz.ntmps254
  go_wp2_with (go_at_call 258; refine HCC.out.mono ?_)
  rintro e w' ⟨rfl, rfl⟩
  go_wp2_with (at_builtin; refine Go.Lib.wpList_append_run _ rfl _ _ _ _ rfl _ _ rfl rfl _ _ (hr _) ?_)
  go_wp2
  go_ret
  exact ⟨rfl, W.out⟩

set_option maxHeartbeats 1000000 in
set_option maxRecDepth 100000 in
theorem String_any {b g cap : Nat} {w : World} {p : Value} {cur : Array Value} {fz : Nat × Nat} (l : List UInt8) (h0 : l ≠ []) (hbk : w.heap[b]? = some (.cells #[p, .slice (some ⟨g, 0, none⟩) l.length cap] 301 (0, 0))) (hg : w.heap[g]? = some (.cells cur 5 fz)) (hnc : l.length ≤ cap) (hcm : cap ≤ maxLen) (hcs : cur.size = cap * 1)
    (hc : ∀ j x, l[j]? = some x → w.cell? ⟨g, j, none⟩ = some (.int .u8 x.toNat)) :
    Calls Tryz.prog 244 #[.pointer (some ⟨b, 0, none⟩)] w fun e w' => e = .returned (.string ⟨l.toArray⟩) ∧ w' = w.drew.freeze ⟨g, 0, none⟩ l.length := by
  have hl0 : l.length ≠ 0 := by simpa using h0
  have c1 : w.drew.cell? ⟨b, 1, none⟩ = some (.slice (some ⟨g, 0, none⟩) l.length cap) := by
    have : w.drew.heap[b]? = some (.cells #[p, .slice (some ⟨g, 0, none⟩) l.length cap] 301 (0, 0)) := hbk
    rw [Go.Lib.cell_of_heap this]; rfl
  have hSD : (Builtin.unsafeSliceData_ #[108] 317 #[.slice (some ⟨g, 0, none⟩) l.length cap]).run Tryz.prog w.drew = .ok (.pointer (some ⟨g, 0, none⟩)) w.drew :=
    Go.Lib.run_unsafeSliceData_row _ _ _ _ _ _ (by omega)
  have hUS : (Builtin.unsafeString_ #[317, 3] 9 #[.pointer (some ⟨g, 0, none⟩), .int .i64 l.length]).run Tryz.prog w.drew = .ok (.string ⟨l.toArray⟩) (w.drew.freeze ⟨g, 0, none⟩ l.length) := by
    refine Go.Lib.run_unsafeString_row w.drew 317 3 9 5 Tryz.underlying317 (by kernel_rfl) g cur.size (by have hg' : w.drew.heap[g]? = some (.cells cur 5 fz) := hg; simp [World.shape?, hg']) l h0 (by omega) (by unfold maxLen at hcm; omega) ?_
    intro j x hx
    have hadd : (⟨g, 0, none⟩ : Addr).add j = ⟨g, j, none⟩ := by unfold Addr.add; split <;> simp_all
    rw [hadd, World.cell?_drew]; exact hc j x hx
  clear hc hcs hg hbk
  have mixed : Tryz.prog.follows Departure.mixedOrders = true := by kernel_rfl
  go_enter Tryz.func244, Tryz.ntmps244
  go_wp2
  go_region_o
  all_goals (go_wp2; go_ret; exact ⟨rfl, rfl⟩)
end Go.Proofs.Lh
