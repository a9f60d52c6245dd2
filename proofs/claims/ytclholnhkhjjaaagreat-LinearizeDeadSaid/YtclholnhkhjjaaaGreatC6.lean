/-
  Part C6 of this claim's proof. Joined by merge.py from the texts of wip/tpl.
-/
import Derived.Test.YtclholnhkhjjaaaGreatC5
set_option linter.unusedVariables false
set_option linter.unusedSimpArgs false
set_option linter.unnecessarySimpa false
namespace Go.Proofs.Lg
open Go Go.RowKit

def rel (rows : List (List Bool)) (i j : Nat) : Bool := (rows.getD i []).getD j false
/-- Line i is before line j. -/
def bef (rows : List (List Bool)) (i j : Nat) : Bool := rel rows i j && !rel rows j i
def relat (rows : List (List Bool)) (i j : Nat) : Bool := bef rows i j || bef rows j i
/-- A square of n rows. -/
def Sq (n : Nat) (rows : List (List Bool)) : Prop := rows.length = n ∧ ∀ r ∈ rows, r.length = n

theorem SlOf.form {w : World} {v : Value} {n : Nat} {rows : List (List Bool)} (h : SlOf w v (rows.map bools)) (hq : Sq n rows) (hn : 0 < n) :
    ∃ b off c, v = .slice (some ⟨b, off, none⟩) n c ∧ ∀ i j, i < n → j < n → ∃ bi oi ci, w.cell? ⟨b, off + i, none⟩ = some (.slice (some ⟨bi, oi, none⟩) n ci) ∧ w.cell? ⟨bi, oi + j, none⟩ = some (.bool (rel rows i j)) := by
  obtain ⟨vs, ⟨a, c, rfl, h1, h2, h3⟩, hlen, hrows⟩ := h
  simp only [List.length_map, hq.1] at hlen
  obtain ⟨b, off, rfl, hc⟩ := h3 (by intro e; subst e; simp at hlen; omega)
  refine ⟨b, off, c, by rw [hlen], fun i j hi hj => ?_⟩
  have hiv : i < vs.length := by omega
  have hir : i < rows.length := by rw [hq.1]; exact hi
  have hlr : rows[i].length = n := hq.2 _ (List.getElem_mem _)
  have hci := hc i vs[i] (List.getElem?_eq_getElem hiv)
  obtain ⟨ai, ci, hvi, k1, k2, k3⟩ := hrows i vs[i] (bools rows[i]) (List.getElem?_eq_getElem hiv) (by rw [List.getElem?_map, List.getElem?_eq_getElem hir]; rfl)
  have hbl : (bools rows[i]).length = n := by simp [bools, hlr]
  obtain ⟨bi, oi, rfl, kc⟩ := k3 (by intro e; rw [e] at hbl; simp at hbl; omega)
  rw [hbl] at hvi
  refine ⟨bi, oi, ci, by rw [hci, hvi], kc j _ ?_⟩
  simp [bools, rel, hir]
  rw [List.getElem?_eq_getElem (by omega)]
  rfl

set_option maxHeartbeats 400000 in
theorem before_any (vl ve vr vv : Value) (n i j : Nat) (rows : List (List Bool)) (w : World) (h : SlOf w vr (rows.map bools)) (hq : Sq n rows) (hi : i < n) (hj : j < n) (hn : n ≤ 1000000) :
    Calls Tryz.prog 75 #[.agg #[vl, ve, vr, vv], .int .i64 i, .int .i64 j] w fun e w' => e = .returned (.bool (bef rows i j)) ∧ Below w.heap.size w w' := by
  obtain ⟨b, off, c, rfl, hc⟩ := h.form hq (by omega)
  obtain ⟨bi, oi, ci, c1, c2⟩ := hc i j hi hj
  obtain ⟨bj, oj, cj, c3, c4⟩ := hc j i hj hi
  have hb := cell_lt c1
  have hbi := cell_lt c2
  have hbj := cell_lt c4
  unfold bef
  generalize rel rows i j = x at c2 ⊢
  generalize rel rows j i = y at c4 ⊢
  clear hc hq h
  cases x <;>
  · go_enter Tryz.func75, Tryz.ntmps75
    go_wp2
    go_ret
    exact ⟨rfl, (Below.refl _ _).alloc (Nat.le_refl _) _⟩

set_option maxHeartbeats 400000 in
theorem related_any (vl ve vr vv : Value) (n i j : Nat) (rows : List (List Bool)) (w : World) (h : SlOf w vr (rows.map bools)) (hq : Sq n rows) (hi : i < n) (hj : j < n) (hn : n ≤ 1000000) :
    Calls Tryz.prog 72 #[.agg #[vl, ve, vr, vv], .int .i64 i, .int .i64 j] w fun e w' => e = .returned (.bool (relat rows i j)) ∧ Below w.heap.size w w' := by
  obtain ⟨b, off, c, rfl, hc⟩ := h.form hq (by omega)
  clear hc
  have H := Lib.hid h
  have HB : Hid (relat rows i j = (bef rows i j || bef rows j i)) := rfl
  clear h
  go_enter Tryz.func72, Tryz.ntmps72
  go_wp2_with fail
  refine (before_any _ _ _ _ n i j rows _ (H.out.below ((Below.refl _ _).alloc (Nat.le_refl _) _)) hq hi hj hn).mono ?_
  rintro e w1 ⟨rfl, hb1⟩
  generalize bef rows i j = x at HB
  have hbw1 : Below w.heap.size w w1 := ((Below.refl _ _).alloc (Nat.le_refl _) _).trans (hb1.mono (by simp))
  have x0 : w1.cell? ⟨w.heap.size, 0, none⟩ = some vl := below_cell hb1 (by simp [go_sem])
  have x1 : w1.cell? ⟨w.heap.size, 1, none⟩ = some ve := below_cell hb1 (by simp [go_sem])
  have x2 : w1.cell? ⟨w.heap.size, 2, none⟩ = some (.slice (some ⟨b, off, none⟩) n c) := below_cell hb1 (by simp [go_sem])
  have x3 : w1.cell? ⟨w.heap.size, 3, none⟩ = some vv := below_cell hb1 (by simp [go_sem])
  clear hb1
  cases x with
  | true =>
    go_wp2
    go_ret
    exact ⟨by rw [HB.out]; rfl, hbw1⟩
  | false =>
    go_wp2_with fail
    refine (before_any _ _ _ _ n j i rows _ (H.out.below hbw1) hq hj hi hn).mono ?_
    rintro e w2 ⟨rfl, hb2⟩
    have hbw2 := hbw1.trans (hb2.mono hbw1.size)
    clear hb2
    go_wp2
    go_ret
    exact ⟨by rw [HB.out]; rfl, hbw2⟩

set_option maxHeartbeats 1000000 in
/-- The closure of settled: is line j another one than line i, and neither before it nor after it? -/
theorem settled1_any (vl ve vr vv : Value) (n i j Bi Bx : Nat) (rows : List (List Bool)) (w : World) (h : SlOf w vr (rows.map bools)) (hq : Sq n rows) (hi : i < n) (hj : j < n) (hn : n ≤ 1000000)
    (hbi : w.cell? ⟨Bi, 0, none⟩ = some (.int .i64 i)) (x0 : w.cell? ⟨Bx, 0, none⟩ = some vl) (x1 : w.cell? ⟨Bx, 1, none⟩ = some ve) (x2 : w.cell? ⟨Bx, 2, none⟩ = some vr) (x3 : w.cell? ⟨Bx, 3, none⟩ = some vv) :
    Calls Tryz.prog 71 #[.int .i64 j, .pointer (some ⟨Bi, 0, none⟩), .pointer (some ⟨Bx, 0, none⟩)] w fun e w' => e = .returned (.bool (decide (i ≠ j) && !relat rows i j)) ∧ Below w.heap.size w w' := by
  by_cases hij : i = j
  · have h1 : ((i : Int) != (j : Int)) = false := by simp [hij]
    have h2 : ((i : Int) == (j : Int)) = true := by simp [hij]
    have H := Lib.hid hij
    clear hij
    go_enter Tryz.func71, Tryz.ntmps71
    go_wp2
    go_ret
    exact ⟨by simp [H.out], Below.refl _ _⟩
  · have h1 : ((i : Int) != (j : Int)) = true := by simp; omega
    have h2 : ((i : Int) == (j : Int)) = false := by simp; omega
    have H := Lib.hid hij
    have HS := Lib.hid h
    clear hij h
    go_enter Tryz.func71, Tryz.ntmps71
    go_wp2_with (go_at_call 72; refine (related_any _ _ _ _ n i j rows _ HS.out hq hi hj hn).mono ?_; rintro e w1 ⟨rfl, hb1⟩)
    go_ret
    exact ⟨by simp [H.out], hb1⟩

def cmpBef (rows : List (List Bool)) (i j : Nat) : Int := if i = j then 0 else if bef rows i j then -1 else 1

set_option maxHeartbeats 1000000 in
/-- The comparison that settled hands to the sort. -/
theorem settled2_any (vl ve vr vv : Value) (n i j Bx : Nat) (rows : List (List Bool)) (w : World) (h : SlOf w vr (rows.map bools)) (hq : Sq n rows) (hi : i < n) (hj : j < n) (hn : n ≤ 1000000)
    (x0 : w.cell? ⟨Bx, 0, none⟩ = some vl) (x1 : w.cell? ⟨Bx, 1, none⟩ = some ve) (x2 : w.cell? ⟨Bx, 2, none⟩ = some vr) (x3 : w.cell? ⟨Bx, 3, none⟩ = some vv) :
    Calls Tryz.prog 74 #[.int .i64 i, .int .i64 j, .pointer (some ⟨Bx, 0, none⟩)] w fun e w' => e = .returned (.int .i64 (cmpBef rows i j)) ∧ Below w.heap.size w w' := by
  unfold cmpBef
  by_cases hij : i = j
  · have h1 : ((i : Int) == (j : Int)) = true := by simp [hij]
    rw [if_pos hij]
    clear hij
    go_enter Tryz.func74, Tryz.ntmps74
    go_wp2
    go_ret
    exact ⟨rfl, Below.refl _ _⟩
  · have h1 : ((i : Int) == (j : Int)) = false := by simp; omega
    rw [if_neg hij]
    have HS := Lib.hid h
    clear hij h
    have hbf := before_any vl ve vr vv n i j rows w HS.out hq hi hj hn
    generalize bef rows i j = x at hbf ⊢
    have HBF := Lib.hid hbf
    clear hbf
    cases x <;>
    · go_enter Tryz.func74, Tryz.ntmps74
      go_wp2_with (go_at_call 75; refine HBF.out.mono ?_; rintro e w1 ⟨rfl, hb1⟩)
      go_ret
      exact ⟨rfl, hb1⟩

set_option maxHeartbeats 1000000 in
/-- The inner closure of arranged: is line j before line i? -/
theorem arranged11_any (vl ve vr vv : Value) (n i j Bi Bx : Nat) (rows : List (List Bool)) (w : World) (h : SlOf w vr (rows.map bools)) (hq : Sq n rows) (hi : i < n) (hj : j < n) (hn : n ≤ 1000000)
    (hbi : w.cell? ⟨Bi, 0, none⟩ = some (.int .i64 i)) (x0 : w.cell? ⟨Bx, 0, none⟩ = some vl) (x1 : w.cell? ⟨Bx, 1, none⟩ = some ve) (x2 : w.cell? ⟨Bx, 2, none⟩ = some vr) (x3 : w.cell? ⟨Bx, 3, none⟩ = some vv) :
    Calls Tryz.prog 135 #[.int .i64 j, .pointer (some ⟨Bx, 0, none⟩), .pointer (some ⟨Bi, 0, none⟩)] w fun e w' => e = .returned (.bool (bef rows j i)) ∧ Below w.heap.size w w' := by
  have HS := Lib.hid h
  clear h
  go_enter Tryz.func135, Tryz.ntmps135
  go_wp2_with (go_at_call 75; refine (before_any _ _ _ _ n j i rows _ HS.out hq hj hi hn).mono ?_; rintro e w1 ⟨rfl, hb1⟩)
  go_ret
  exact ⟨rfl, hb1⟩
end Go.Proofs.Lg
