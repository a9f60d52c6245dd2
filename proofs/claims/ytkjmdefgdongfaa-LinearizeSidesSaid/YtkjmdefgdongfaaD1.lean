/-
  The closures of LinearizeSides.
-/
import Derived.Test.YtkjmdefgdongfaaP5
import Derived.Test.YtkjmdefgdongfaaQ3
namespace Go.Proofs.Lg
open Go Go.RowKit

/-- Two lines, neither of which is before the other one. -/
def Gr.apart (g : Gr) (i j : Nat) : Bool := decide (i ≠ j) && (!g.before i j && !g.before j i)

set_option maxRecDepth 100000 in
set_option maxHeartbeats 2000000 in
theorem sides1_any (vl ve : Value) (g : Gr) (i j Bg : Nat) (w : World) (hg : GrAt w vl ve g) (hck : g.check = 0) (hi : i < g.lines.length) (hj : j < g.lines.length) (h0 : w.cell? ⟨Bg, 0, none⟩ = some vl) (h1 : w.cell? ⟨Bg, 1, none⟩ = some ve) :
    Calls Try.prog 16 #[.int .i64 i, .int .i64 j, .pointer (some ⟨Bg, 0, none⟩)] w fun e w' => e = .returned (.bool (g.apart i j)) ∧ Below w.heap.size w w' := by
  obtain ⟨al, cl, ml, rfl⟩ : ∃ a c m, vl = .slice a m c := by obtain ⟨a, c, h, _⟩ := hg.lines; exact ⟨a, c, _, h⟩
  obtain ⟨ae, ce, me, rfl⟩ : ∃ a c m, ve = .slice a m c := by obtain ⟨a, c, h, _⟩ := hg.edges; exact ⟨a, c, _, h⟩
  have hl := cell_lt h0
  have HB1 := Lib.hid (Before_ok _ _ g i j w hg hck hi hj)
  have HG := Lib.hid (And.intro hg hck)
  have hfew := hg.few
  clear hg hck
  by_cases hij : i = j
  · have HA : Hid (g.apart i j = false) := by show _ = _; simp [Gr.apart, hij]
    have hd : ((i : Int) != (j : Int)) = false := by simp [hij]
    have hd2 : (i != j) = false := by simp [hij]
    clear hij
    rw [HA.out]
    go_enter Try.func16, Try.ntmps16
    go_wp2
    go_ret
    exact ⟨rfl, Below.refl _ _⟩
  · have hd : ((i : Int) != (j : Int)) = true := by simp; omega
    have hd2 : (i != j) = true := by simp [hij]
    cases hb : g.before i j with
    | true =>
      have HA : Hid (g.apart i j = false) := by show _ = _; simp [Gr.apart, hb]
      rw [hb] at HB1
      clear hij hb
      rw [HA.out]
      go_enter Try.func16, Try.ntmps16
      go_wp2_with (fail)
      refine HB1.out.mono ?_
      rintro e w1 ⟨rfl, hb1⟩
      have HB := Lib.hid hb1
      clear hb1
      go_wp2
      go_ret
      exact ⟨rfl, HB.out⟩
    | false =>
      have HA : Hid (g.apart i j = !g.before j i) := by show _ = _; simp [Gr.apart, hb, hij]
      rw [hb] at HB1
      clear hij hb
      rw [HA.out]
      obtain ⟨bb, hbb⟩ : ∃ bb, g.before j i = bb := ⟨_, rfl⟩
      rw [hbb]
      have HBB := Lib.hid hbb
      clear hbb HA
      go_enter Try.func16, Try.ntmps16
      go_wp2_with (fail)
      refine HB1.out.mono ?_
      rintro e w1 ⟨rfl, hb1⟩
      have HB := Lib.hid hb1
      have HB2 := Lib.hid (Before_ok _ _ g j i w1 (HG.out.1.below hb1) HG.out.2 hj hi)
      rw [HBB.out] at HB2
      have k0 := below_cell hb1 h0
      have k1 := below_cell hb1 h1
      have kl := cell_lt k0
      clear hb1 h0 h1 hl
      go_wp2_with (fail)
      refine HB2.out.mono ?_
      rintro e w2 ⟨rfl, hb2⟩
      have HB3 : Hid (Below w.heap.size w w2) := Keep.trans HB.out hb2
      clear hb2 k0 k1 kl
      go_wp2
      go_ret
      exact ⟨rfl, HB3.out⟩

set_option maxRecDepth 100000 in
set_option maxHeartbeats 2000000 in
theorem sides2_any (vl ve : Value) (g : Gr) (i j Bg Bf Bi : Nat) (w : World) (hg : GrAt w vl ve g) (hck : g.check = 0) (hi : i < g.lines.length) (hj : j < g.lines.length) (h0 : w.cell? ⟨Bg, 0, none⟩ = some vl) (h1 : w.cell? ⟨Bg, 1, none⟩ = some ve)
    (hf : w.cell? ⟨Bf, 0, none⟩ = some (.func (.func 16) #[] #[.pointer (some ⟨Bg, 0, none⟩)])) (hbi : w.cell? ⟨Bi, 0, none⟩ = some (.int .i64 i)) :
    Calls Try.prog 18 #[.int .i64 j, .pointer (some ⟨Bf, 0, none⟩), .pointer (some ⟨Bi, 0, none⟩)] w fun e w' => e = .returned (.bool (g.apart i j)) ∧ Below w.heap.size w w' := by
  have HC := Lib.hid (sides1_any vl ve g i j Bg w hg hck hi hj h0 h1)
  have hfl := cell_lt hf
  have hil := cell_lt hbi
  clear hg hck h0 h1
  generalize g.apart i j = b at *
  go_enter Try.func18, Try.ntmps18
  go_wp2_with (fail)
  refine HC.out.mono ?_
  rintro e w1 ⟨rfl, hb1⟩
  go_wp2
  go_ret
  exact ⟨rfl, hb1⟩

set_option maxRecDepth 100000 in
set_option maxHeartbeats 2000000 in
theorem sides3_any (vr : Value) (n i j Br Bi : Nat) (rows : List (List Bool)) (w : World) (h : SlOf w vr (rows.map bools)) (hq : Sq n rows) (hi : i < n) (hj : j < n) (hn : n ≤ 1000000)
    (hr : w.cell? ⟨Br, 0, none⟩ = some vr) (hbi : w.cell? ⟨Bi, 0, none⟩ = some (.int .i64 i)) :
    Calls Try.prog 19 #[.int .i64 j, .pointer (some ⟨Br, 0, none⟩), .pointer (some ⟨Bi, 0, none⟩)] w fun e w' => e = .returned (.bool (rel rows i j || rel rows j i)) ∧ Below w.heap.size w w' := by
  obtain ⟨b, off, c, rfl, hc⟩ := h.form hq (by omega)
  obtain ⟨bi, oi, ci, c1, c2⟩ := hc i j hi hj
  obtain ⟨bj, oj, cj, c3, c4⟩ := hc j i hj hi
  generalize rel rows i j = x at *
  generalize rel rows j i = y at *
  have hne : Nonempty (Cls (Keep w)) := ⟨⟨w, Keep.refl w⟩⟩
  have p1 : ∀ p : Cls (Keep w), p.w.cell? ⟨b, off + i, none⟩ = some (.slice (some ⟨bi, oi, none⟩) n ci) := fun p => below_cell p.h c1
  have p2 : ∀ p : Cls (Keep w), p.w.cell? ⟨bi, oi + j, none⟩ = some (.bool x) := fun p => below_cell p.h c2
  have p3 : ∀ p : Cls (Keep w), p.w.cell? ⟨b, off + j, none⟩ = some (.slice (some ⟨bj, oj, none⟩) n cj) := fun p => below_cell p.h c3
  have p4 : ∀ p : Cls (Keep w), p.w.cell? ⟨bj, oj + i, none⟩ = some (.bool y) := fun p => below_cell p.h c4
  have p5 : ∀ p : Cls (Keep w), p.w.cell? ⟨Br, 0, none⟩ = some (.slice (some ⟨b, off, none⟩) n c) := fun p => below_cell p.h hr
  have p6 : ∀ p : Cls (Keep w), p.w.cell? ⟨Bi, 0, none⟩ = some (.int .i64 i) := fun p => below_cell p.h hbi
  have i1 : (0 : Int) ≤ (i : Int) := by omega
  have i2 : (i : Int) < (n : Int) := by omega
  have j1 : (0 : Int) ≤ (j : Int) := by omega
  have j2 : (j : Int) < (n : Int) := by omega
  clear hc hq h c1 c2 c3 c4 hr hbi
  cases x with
  | true =>
    go_enter Try.func19, Try.ntmps19
    go_wp2
    refine wp_region_cls (Keep w) (by kernel_rfl) (by kernel_rfl) (Keep.drew w) ?_
    repeat (go_big_quiet_step (fail))
    refine wpQuiet_nil ?_
    rintro w1 ⟨⟨_, hw1⟩, rfl⟩
    go_wp2
    go_ret
    exact ⟨rfl, hw1⟩
  | false =>
    go_enter Try.func19, Try.ntmps19
    go_wp2
    refine wp_region_cls (Keep w) (by kernel_rfl) (by kernel_rfl) (Keep.drew w) ?_
    repeat (go_big_quiet_step (fail))
    refine wpQuiet_nil ?_
    rintro w1 ⟨⟨_, hw1⟩, rfl⟩
    go_wp2
    go_ret
    exact ⟨rfl, hw1⟩
end Go.Proofs.Lg
