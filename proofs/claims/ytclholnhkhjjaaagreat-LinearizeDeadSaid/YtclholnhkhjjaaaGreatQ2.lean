/-
  Part Q2 of this claim's proof. Joined by merge.py from the texts of wip/tpl.
-/
import Derived.Lib.AppendZeros
import Derived.Test.YtclholnhkhjjaaaGreatC4
set_option linter.unusedVariables false
set_option linter.unusedSimpArgs false
set_option linter.unnecessarySimpa false
namespace Go.Proofs.Lg
open Go Go.RowKit

theorem zeroCells_one (z : Value) (n : Nat) : (Builtin.zeroCells #[z] n).size = n := by
  simp [Builtin.zeroCells]

set_option maxRecDepth 100000 in
set_option maxHeartbeats 1000000 in
theorem GrowInts_nil (n : Nat) (w : World) (hn : n ≤ 10000000) :
    Calls Tryz.prog 89 #[.slice none 0 0, .int .i64 n] w fun e w' => ∃ v, e = .returned v ∧ w'.ownsRow w.heap.size 3 1 v 0 [] ∧ Below w.heap.size w w' := by
  by_cases h0 : n = 0
  · subst h0
    go_enter Tryz.func89, Tryz.ntmps89
    go_wp2
    go_ret
    exact ⟨_, rfl, World.ownsRow_nil _ _ _ _, Below.refl _ _⟩
  · have h1 : 0 < n := by omega
    obtain ⟨i0, hi, hz0, hz1, hz2⟩ := info_parts info_int
    have hr := Lib.run_append_nil_zeros (P := Tryz.prog) w 29 3 29 3 i0 (.int .i64 0) .i64 .i64 Tryz.underlying29 Tryz.underlying3 hi hz0 n h1 (by omega) (by omega) (by rw [hz2]; omega)
    have HR := Lib.hid hr
    clear hr
    go_enter Tryz.func89, Tryz.ntmps89
    go_wp2_with (at_builtin; refine Lib.wpList_append_run _ rfl _ _ _ _ rfl _ _ rfl rfl _ _ HR.out ?_)
    go_ret
    refine ⟨_, rfl, ⟨rfl, .inr ⟨w.heap.size, grownCap w n 0 3, _, rfl, Nat.le_refl _, heap_alloc_new w _, Nat.zero_le _, grownCap_le_maxLen w n 0 _ (by unfold maxLen; omega), ?_, rfl⟩⟩, ((Below.refl _ _).alloc (Nat.le_refl _) _).drew⟩
    have := grownCap_ge w n 0 3
    rw [Array.size_append, zeroCells_one, zeroCells_one]
    omega

/-- How many elements the first k rows hold. -/
def tot (rows : List (List Int)) (k : Nat) : Nat := (rows.take k).flatten.length
theorem tot_succ {rows : List (List Int)} {k : Nat} (h : k < rows.length) : tot rows (k + 1) = tot rows k + rows[k].length := by
  unfold tot; rw [List.take_succ_eq_append_getElem h, List.flatten_append, List.length_append, List.flatten_singleton]
theorem tot_le (rows : List (List Int)) (k : Nat) : tot rows k ≤ rows.flatten.length := by
  unfold tot
  rw [show rows.flatten.length = ((rows.take k) ++ rows.drop k).flatten.length by rw [List.take_append_drop], List.flatten_append, List.length_append]; omega

set_option maxRecDepth 100000 in
set_option maxHeartbeats 4000000 in
theorem ConcatInts_any (rows : List (List Int)) (v : Value) (w : World) (h : SlOf w v (rows.map ints)) (hn : rows.length ≤ 10000000) (ht : rows.flatten.length ≤ 10000000) :
    Calls Tryz.prog 46 #[v] w fun e w' => ∃ u, e = .returned u ∧ w'.ownsRow w.heap.size 3 1 u rows.flatten.length (ints rows.flatten) ∧ Below w.heap.size w w' := by
  obtain ⟨vs, hv, hl, hrow⟩ := h
  obtain ⟨a, c, rfl, hc1, hc2, hcs⟩ := hv
  have hvl : vs.length = rows.length := by simpa using hl
  rw [hvl] at hc1 ⊢
  have hcell : ∀ k (h : k < rows.length), ∃ (b off : Nat) (u : Value) (cu : Option Addr × Nat), a = some ⟨b, off, none⟩ ∧ u = .slice cu.1 rows[k].length cu.2 ∧ w.cell? ⟨b, off + k, none⟩ = some u ∧ SlAt w u (ints rows[k]) := by
    intro k hk
    obtain ⟨b, off, ha, hcc⟩ := hcs (by intro e; subst e; simp at hvl; omega)
    have hk2 : k < vs.length := by omega
    have e1 : vs[k]? = some vs[k] := List.getElem?_eq_getElem hk2
    have hs := hrow k vs[k] (ints rows[k]) e1 (by rw [List.getElem?_map, List.getElem?_eq_getElem hk]; rfl)
    obtain ⟨au, cu, hu, _⟩ := id hs
    rw [ints_length] at hu
    exact ⟨b, off, vs[k], (au, cu), ha, hu, hcc k _ e1, hs⟩
  have HC := Lib.hid hcell
  have htle : ∀ k, tot rows k ≤ 10000000 := fun k => Nat.le_trans (tot_le rows k) ht
  have HT := Lib.hid htle
  clear hcell hcs hrow hl hvl htle ht
  go_enter Tryz.func46, Tryz.ntmps46
  go_wp2
  go_loop [3, 11] (fun t i => ∃ k : Nat, k ≤ rows.length ∧ i = .int .i64 k ∧ t = .int .i64 (tot rows k)) (fun _ i => rows.length - (intOf i).toNat)
  case atStart => exact ⟨0, Nat.zero_le _, rfl, rfl⟩
  case round =>
    obtain ⟨k, hk, rfl, rfl⟩ := hrel
    have ht1 := HT.out k
    by_cases hlt : k < rows.length
    · obtain ⟨b, off, u, ⟨au, cu⟩, rfl, hu, hc, hs⟩ := HC.out k hlt
      have HTS : Hid (tot rows (k + 1) = tot rows k + rows[k].length) := tot_succ hlt
      have ht2 := HT.out (k + 1)
      have hle : rows[k].length ≤ 10000000 := by have := HTS.out; omega
      dsimp only at hu
      subst hu
      generalize rows[k].length = m at *
      have hcl := cell_lt hc
      clear hs
      have hsm : (tot rows k : Int) + (m : Int) ≤ 10000000 := by have := HTS.out; omega
      go_wp2
      go_round
      case rel => exact ⟨k + 1, by omega, by go_num, by rw [HTS.out]; go_num⟩
      case measure => simp [intOf]; omega
    · have hkl : k = rows.length := by omega
      have htn : tot rows rows.length = rows.flatten.length := by unfold tot; rw [List.take_length]
      rw [hkl]
      have HTN := Lib.hid htn
      clear htn
      have ht0 := HT.out rows.length
      clear hkl hlt ht1
      have HG := Lib.hid (GrowInts_nil (tot rows rows.length) w ht0)
      go_wp2_with fail
      refine HG.out.mono ?_
      rintro e w1 ⟨u1, rfl, hown1, hb1⟩
      have HOW := Lib.hid hown1
      have HB1 := Lib.hid hb1
      obtain ⟨a1, c1, hu1⟩ := ownsRow_form hown1
      subst hu1
      clear hown1 hb1 HG
      have hs1 := HB1.out.size
      go_wp2
      go_loopg [6, 27] (rows.length + 1) (fun gk out i wr => ∃ k : Nat, i = .int .i64 k ∧ k ≤ rows.length ∧ gk + k = rows.length + 1 ∧ wr.ownsRow w.heap.size 3 1 out (tot rows k) (ints (rows.take k).flatten) ∧ Below w.heap.size w wr)
      case atStart => exact ⟨0, rfl, Nat.zero_le _, rfl, by simpa [tot, ints] using HOW.out, HB1.out⟩
      case round =>
        obtain ⟨k, rfl, hk, hgk, hown, hB⟩ := hrel
        have HO := Lib.hid hown
        have HB := Lib.hid hB
        obtain ⟨ao, co, hvo⟩ := ownsRow_form hown
        subst hvo
        have hsz := hB.size
        clear hown hB
        by_cases hlt : k < rows.length
        · obtain ⟨b, off, u, ⟨au, cu⟩, rfl, hu, hc, hs⟩ := HC.out k hlt
          have HTS : Hid (tot rows (k + 1) = tot rows k + rows[k].length) := tot_succ hlt
          have HTK : Hid (rows.take (k + 1) = rows.take k ++ [rows[k]]) := List.take_succ_eq_append_getElem hlt
          have ht1 := HT.out k
          have ht2 := HT.out (k + 1)
          have hle : rows[k].length ≤ 10000000 := by have := HTS.out; omega
          dsimp only at hu
          subst hu
          have hcr := below_cell HB.out hc
          have hcl := cell_lt hcr
          have hsrc := (hs.below HB.out).src
          rw [ints_length] at hsrc
          have HSRC := Lib.hid hsrc
          have HONE : Hid (∀ u ∈ ints rows[k], u.oneCell' = true) := oneCell_ints _
          clear hs hc hsrc
          generalize rows[k] = r at *
          have hsum : tot rows k + r.length ≤ 10000000 := by have := HTS.out; omega
          go_wp2_with (at_builtin; refine wpList_app rfl _ _ _ rfl w.heap.size 3 (.int .i64 0) 1 8 Tryz.underlying29 info_int rfl (by decide) _ (tot rows k) (ints (rows.take k).flatten) rfl HO.out _ r.length (ints r) rfl HSRC.out HONE.out (by omega) (by omega) (by omega) ?_; intro a' c' w2 hown2 hgrow2 hat2)
          go_roundg (gk - 1)
          case measure => omega
          case rel =>
            refine ⟨k + 1, by go_num, by omega, by omega, ?_, HB.out.grown hgrow2 hsz (fun j hj => (HO.out.lt j hj).1)⟩
            rw [HTK.out, HTS.out]
            simpa [ints] using hown2
        · have hkl : k = rows.length := by omega
          clear hlt hgk hk
          subst hkl
          have HOW2 : Hid (wr.ownsRow w.heap.size 3 1 (.slice ao (tot rows rows.length) co) rows.flatten.length (ints rows.flatten)) := by
            have := HO.out
            rw [List.take_length] at this
            rw [← HTN.out]
            exact Lib.hid this
          go_wp2
          go_ret
          exact ⟨_, rfl, HOW2.out, HB.out⟩
end Go.Proofs.Lg
