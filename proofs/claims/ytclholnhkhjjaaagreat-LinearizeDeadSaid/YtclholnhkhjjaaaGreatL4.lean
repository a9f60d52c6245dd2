/-
  Part L4 of this claim's proof. Joined by merge.py from the texts of wip/tpl.
-/
import Derived.Test.YtclholnhkhjjaaaGreatC4
set_option linter.unusedVariables false
set_option linter.unusedSimpArgs false
set_option linter.unnecessarySimpa false
namespace Go.Proofs.Lg
open Go Go.RowKit

/-- Cells of two slices with the same elements. -/
theorem SlAt.form {w : World} {v : Value} {xs : List Value} (h : SlAt w v xs) : ∃ a c, v = .slice a xs.length c ∧ xs.length ≤ 9223372036854775807 ∧ ∀ k (hk : k < xs.length), ∃ b off, a = some ⟨b, off, none⟩ ∧ w.cell? ⟨b, off + k, none⟩ = some xs[k] := by
  have hle := h.le
  obtain ⟨a, c, rfl, _, _, h3⟩ := h
  refine ⟨a, c, rfl, hle, fun k hk => ?_⟩
  obtain ⟨b, off, ha, hc⟩ := h3 (by intro e; subst e; simp at hk)
  exact ⟨b, off, ha, hc k _ (List.getElem?_eq_getElem hk)⟩

theorem SlAt.formI {w : World} {v : Value} {l : List Int} (h : SlAt w v (ints l)) : ∃ a c, v = .slice a l.length c ∧ ∀ (k : Nat) (x : Int), l[k]? = some x → ∃ b off, a = some ⟨b, off, none⟩ ∧ w.cell? ⟨b, off + k, none⟩ = some (.int .i64 x) := by
  obtain ⟨a, c, rfl, _, _, h3⟩ := h
  refine ⟨a, c, by rw [ints_length], fun k x hk => ?_⟩
  have hk2 : (ints l)[k]? = some (.int .i64 x) := by simp [ints, hk]
  obtain ⟨b, off, ha, hc⟩ := h3 (by intro e; rw [e] at hk2; simp at hk2)
  exact ⟨b, off, ha, hc k _ hk2⟩

set_option maxRecDepth 100000 in
set_option maxHeartbeats 2000000 in
theorem refSameInts_true (l : List Int) (va vb : Value) (w : World) (ha : SlAt w va (ints l)) (hb : SlAt w vb (ints l)) (_hl : l.length ≤ 10000000) :
    Calls Tryz.prog 9 #[va, vb] w fun e w' => e = .returned (.bool true) ∧ Below w.heap.size w w' := by
  obtain ⟨a, ca, rfl, hca⟩ := ha.formI
  obtain ⟨b, cb, rfl, hcb⟩ := hb.formI
  have HA := Lib.hid hca
  have HB := Lib.hid hcb
  clear hca hcb ha hb
  go_enter Tryz.func9, Tryz.ntmps9
  go_wp2
  go_loopw [5] (fun i wr => ∃ k : Nat, k ≤ l.length ∧ i = .int .i64 k ∧ Keep w wr) (fun i _ => l.length - (intOf i).toNat)
  case atStart => exact ⟨0, Nat.zero_le _, rfl, Keep.refl _⟩
  case round =>
    obtain ⟨k, hk, rfl, hK⟩ := hrel
    by_cases hlt : k < l.length
    · obtain ⟨b1, o1, rfl, c1⟩ := HA.out k _ (List.getElem?_eq_getElem hlt)
      obtain ⟨b2, o2, rfl, c2⟩ := HB.out k _ (List.getElem?_eq_getElem hlt)
      clear HA HB
      generalize l[k] = x at *
      have hne : Nonempty (Cls (Keep wr)) := ⟨⟨wr, Keep.refl wr⟩⟩
      have q1 : ∀ p : Cls (Keep wr), p.w.cell? ⟨b1, o1 + k, none⟩ = some (.int .i64 x) := fun p => below_cell p.h (below_cell hK c1)
      have q2 : ∀ p : Cls (Keep wr), p.w.cell? ⟨b2, o2 + k, none⟩ = some (.int .i64 x) := fun p => below_cell p.h (below_cell hK c2)
      have i1 : (0 : Int) ≤ (k : Int) := by omega
      have i2 : (k : Int) < l.length := by omega
      clear c1 c2
      go_wp2
      refine wp_region_cls (Keep wr) (by kernel_rfl) (by kernel_rfl) (Keep.drew wr) ?_
      repeat (go_big_quiet_step (fail))
      refine wpQuiet_nil ?_
      rintro w1 ⟨⟨_, hw1⟩, rfl⟩
      go_wp2
      go_roundw
      case rel => exact ⟨k + 1, by omega, by go_num, hK.trans hw1⟩
      case measure => simp [intOf]; omega
    · go_wp2
      go_ret
      exact ⟨rfl, hK⟩

set_option maxRecDepth 100000 in
set_option maxHeartbeats 4000000 in
theorem refSameInts21_true (rows : List (List Int)) (va vb : Value) (w : World) (ha : SlOf w va (rows.map ints)) (hb : SlOf w vb (rows.map ints)) (hl : rows.length ≤ 10000000) (hrl : ∀ r ∈ rows, r.length ≤ 10000000) :
    Calls Tryz.prog 41 #[va, vb] w fun e w' => e = .returned (.bool true) ∧ Below w.heap.size w w' := by
  have hform : ∀ v : Value, SlOf w v (rows.map ints) → ∃ a c, v = .slice a rows.length c ∧ ∀ k (hk : k < rows.length), ∃ b off u au cu, a = some ⟨b, off, none⟩ ∧ u = .slice au rows[k].length cu ∧ w.cell? ⟨b, off + k, none⟩ = some u ∧ SlAt w u (ints rows[k]) := by
    rintro v ⟨vs, hv, hlv, hr⟩
    have hvl : vs.length = rows.length := by simpa using hlv
    obtain ⟨a, c, rfl, _, hc⟩ := hv.form
    rw [hvl]
    refine ⟨a, c, rfl, fun k hk => ?_⟩
    obtain ⟨b, off, ha, hck⟩ := hc k (by omega)
    have hs := hr k vs[k] (ints rows[k]) (List.getElem?_eq_getElem _) (by rw [List.getElem?_map, List.getElem?_eq_getElem hk]; rfl)
    obtain ⟨au, cu, hu, _⟩ := id hs
    rw [ints_length] at hu
    exact ⟨b, off, _, au, cu, ha, hu, hck, hs⟩
  obtain ⟨a, ca, rfl, hca⟩ := hform va ha
  obtain ⟨b, cb, rfl, hcb⟩ := hform vb hb
  have HA := Lib.hid hca
  have HB := Lib.hid hcb
  have HRL := Lib.hid hrl
  clear hca hcb ha hb hform hrl
  go_enter Tryz.func41, Tryz.ntmps41
  go_wp2
  go_loopw [5] (fun i wr => ∃ k : Nat, k ≤ rows.length ∧ i = .int .i64 k ∧ Keep w wr) (fun i _ => rows.length - (intOf i).toNat)
  case atStart => exact ⟨0, Nat.zero_le _, rfl, Keep.refl _⟩
  case round =>
    obtain ⟨k, hk, rfl, hK⟩ := hrel
    obtain ⟨wo, rfl⟩ : ∃ wo : World, wo = wr := ⟨_, rfl⟩
    by_cases hlt : k < rows.length
    · obtain ⟨b1, o1, u1, a1, m1, rfl, rfl, c1, s1⟩ := HA.out k hlt
      obtain ⟨b2, o2, u2, a2, m2, rfl, rfl, c2, s2⟩ := HB.out k hlt
      have hrn := HRL.out _ (List.getElem_mem hlt)
      obtain ⟨a1', m1', he1, f1⟩ := (s1.below hK).formI
      obtain ⟨a2', m2', he2, f2⟩ := (s2.below hK).formI
      injection he1 with he1a he1b he1c
      injection he2 with he2a he2b he2c
      subst he1a he2a
      clear he1b he1c he2b he2c s1 s2
      generalize rows[k] = r at *
      have F1 := Lib.hid f1
      have F2 := Lib.hid f2
      have q1 := below_cell hK c1
      have q2 := below_cell hK c2
      have hne : Nonempty (Cls (Keep wo)) := ⟨⟨wo, Keep.refl wo⟩⟩
      have p1 : ∀ p : Cls (Keep wo), p.w.cell? ⟨b1, o1 + k, none⟩ = some (.slice a1 r.length m1) := fun p => below_cell p.h q1
      have p2 : ∀ p : Cls (Keep wo), p.w.cell? ⟨b2, o2 + k, none⟩ = some (.slice a2 r.length m2) := fun p => below_cell p.h q2
      have i1 : (0 : Int) ≤ (k : Int) := by omega
      have i2 : (k : Int) < rows.length := by omega
      clear c1 c2 f1 f2 HA HB
      go_wp2
      refine wp_region_cls (Keep wo) (by kernel_rfl) (by kernel_rfl) (Keep.drew wo) ?_
      repeat (go_big_quiet_step (fail))
      refine wpQuiet_nil ?_
      rintro w1 ⟨⟨_, hw1⟩, rfl⟩
      clear p1 p2 hne
      have t1 := below_cell hw1 q1
      have t2 := below_cell hw1 q2
      have HK1 : Hid (Keep w w1) := hK.trans hw1
      go_wp2
      go_loopw [6] (fun i wr2 => ∃ j : Nat, j ≤ r.length ∧ i = .int .i64 j ∧ Keep w1 wr2) (fun i _ => r.length - (intOf i).toNat)
      case atStart => exact ⟨0, Nat.zero_le _, rfl, Keep.refl _⟩
      case round =>
        obtain ⟨j, hj, rfl, hJ⟩ := hrel
        have v1 := below_cell hJ t1
        have v2 := below_cell hJ t2
        have vl1 := cell_lt v1
        have vl2 := cell_lt v2
        have h5 := hlt
        have HJ : Hid (Below w.heap.size w wr) := Keep.trans HK1.out hJ
        by_cases hlj : j < r.length
        · obtain ⟨b3, o3, rfl, c3⟩ := F1.out j _ (List.getElem?_eq_getElem hlj)
          obtain ⟨b4, o4, rfl, c4⟩ := F2.out j _ (List.getElem?_eq_getElem hlj)
          generalize r[j] = x at *
          clear F1 F2
          have hne : Nonempty (Cls (Keep wr)) := ⟨⟨wr, Keep.refl wr⟩⟩
          have p1 : ∀ p : Cls (Keep wr), p.w.cell? ⟨b1, o1 + k, none⟩ = some (.slice (some ⟨b3, o3, none⟩) r.length m1) := fun p => below_cell p.h v1
          have p2 : ∀ p : Cls (Keep wr), p.w.cell? ⟨b2, o2 + k, none⟩ = some (.slice (some ⟨b4, o4, none⟩) r.length m2) := fun p => below_cell p.h v2
          have p3 : ∀ p : Cls (Keep wr), p.w.cell? ⟨b3, o3 + j, none⟩ = some (.int .i64 x) := fun p => below_cell p.h (below_cell hJ (below_cell hw1 c3))
          have p4 : ∀ p : Cls (Keep wr), p.w.cell? ⟨b4, o4 + j, none⟩ = some (.int .i64 x) := fun p => below_cell p.h (below_cell hJ (below_cell hw1 c4))
          have j1 : (0 : Int) ≤ (j : Int) := by omega
          have j2 : (j : Int) < r.length := by omega
          clear c3 c4
          go_wp2
          refine wp_region_cls (Keep wr) (by kernel_rfl) (by kernel_rfl) (Keep.drew wr) ?_
          repeat (go_big_quiet_step (fail))
          refine wpQuiet_nil ?_
          rintro w3 ⟨⟨_, hw3⟩, rfl⟩
          go_wp2
          go_roundw
          case rel => exact ⟨j + 1, by omega, by go_num, hJ.trans hw3⟩
          case measure => simp [intOf]; omega
        · go_wp2
          go_roundw
          case rel => exact ⟨k + 1, by omega, by go_num, HJ.out⟩
          case measure => simp [intOf]; omega
    · go_wp2
      go_ret
      exact ⟨rfl, hK⟩
end Go.Proofs.Lg
