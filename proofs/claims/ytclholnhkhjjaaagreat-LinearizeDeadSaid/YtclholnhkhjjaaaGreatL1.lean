/-
  Part L1 of this claim's proof. Joined by merge.py from the texts of wip/tpl.
-/
import Derived.Test.YtclholnhkhjjaaaGreatC4
set_option linter.unusedVariables false
set_option linter.unusedSimpArgs false
set_option linter.unnecessarySimpa false
namespace Go.Proofs.Lg
open Go Go.RowKit

/-- The graph whose two slices these are lies in memory, however great. -/
structure GrIn (w : World) (vl ve : Value) (g : Gr) : Prop where
  lines : SlN w vl 35 (g.lines.map Vtx.cells)
  edges : SlN w ve 2 (g.edges.map edgeCells)
  okl : ∀ x ∈ g.lines, x.ok
  oke : ∀ e ∈ g.edges, I64 e.1 ∧ I64 e.2
  okt : ∀ x ∈ g.lines, x.text.size ≤ 9223372036854775807

theorem GrIn.below {w w' : World} {vl ve : Value} {g : Gr} (h : GrIn w vl ve g) (hb : Below w.heap.size w w') : GrIn w' vl ve g :=
  ⟨h.lines.below hb, h.edges.below hb, h.okl, h.oke, h.okt⟩

def Gr.big (g : Gr) : Bool := (g.lines.any fun x => decide (40 < x.text.size)) || (decide (16 < g.lines.length) || decide (60 < g.edges.length))

theorem GrIn.few {w : World} {vl ve : Value} {g : Gr} (h : GrIn w vl ve g) (hb : g.big = false) : GrAt w vl ve g := by
  unfold Gr.big at hb
  simp only [Bool.or_eq_false_iff, decide_eq_false_iff_not] at hb
  exact ⟨h.lines, h.edges, h.okl, h.oke, by omega, by omega⟩

theorem Vtx.cells_text {v : Vtx} (h : v.id.length = 32) : v.cells[33]? = some (Value.string v.text) := by
  unfold Vtx.cells
  rw [List.getElem?_append_right (by simp [h])]
  simp [h]

set_option maxRecDepth 100000 in
set_option maxHeartbeats 2000000 in
theorem Great_any (vl ve : Value) (g : Gr) (w : World) (hg : GrIn w vl ve g) :
    Calls Tryz.prog 35 #[.agg #[vl, ve]] w fun e w' => e = .returned (.bool g.big) ∧ Below w.heap.size w w' := by
  obtain ⟨⟨al, cl, rfl, hl1, hl2, hl3⟩, ⟨ae, ce, rfl, he1, he2, _⟩, hokl, _, hokt⟩ := hg
  simp only [List.length_map] at *
  have HL := Lib.hid hl3
  have HOK := Lib.hid hokl
  have HOT := Lib.hid hokt
  clear hl3 hokl hokt
  have hB0 : Hid (Below w.heap.size w (w.alloc (.cells #[.slice al g.lines.length cl, .slice ae g.edges.length ce] 25))) := (Below.refl _ _).alloc (Nat.le_refl _) _
  go_enter Tryz.func35, Tryz.ntmps35
  go_wp2
  go_loop [3] (fun i => ∃ k : Nat, k ≤ g.lines.length ∧ i = .int .i64 k ∧ (g.lines.take k).any (fun x => decide (40 < x.text.size)) = false) (fun i => g.lines.length - (intOf i).toNat)
  case atStart => exact ⟨0, Nat.zero_le _, rfl, by simp⟩
  case round =>
    obtain ⟨k, hk, rfl, hany⟩ := hrel
    have HA := Lib.hid hany
    clear hany
    by_cases hlt : k < g.lines.length
    · obtain ⟨b, off, rfl, hc⟩ := HL.out (by intro e; rw [List.map_eq_nil_iff] at e; simp [e] at hlt)
      have hct : (w.alloc (.cells #[.slice (some ⟨b, off, none⟩) g.lines.length cl, .slice ae g.edges.length ce] 25)).cell? ⟨b, off + k * 35 + 33, none⟩ = some (Value.string g.lines[k].text) :=
        below_cell hB0.out (hc k g.lines[k].cells (by rw [List.getElem?_map, List.getElem?_eq_getElem hlt]; rfl) 33 _ (Vtx.cells_text (HOK.out _ (List.getElem_mem hlt)).1))
      have hts := HOT.out _ (List.getElem_mem hlt)
      have HTK : Hid (g.lines.take (k + 1) = g.lines.take k ++ [g.lines[k]]) := List.take_succ_eq_append_getElem hlt
      have HMEM : Hid (g.lines[k] ∈ g.lines) := List.getElem_mem hlt
      generalize g.lines[k] = x at *
      have hbl := cell_lt hct
      clear hc HL
      by_cases hx : 40 < x.text.size
      · have HX := Lib.hid hx
        go_wp2
        go_ret
        refine ⟨?_, hB0.out⟩
        have : g.big = true := by
          unfold Gr.big
          rw [Bool.or_eq_true]
          left
          rw [List.any_eq_true]
          exact ⟨x, HMEM.out, by simpa using HX.out⟩
        rw [this]; rfl
      · have HX := Lib.hid hx
        have hx2 : x.text.size ≤ 40 := by omega
        clear hx
        go_wp2
        go_round
        case rel => exact ⟨k + 1, by omega, by go_num, by rw [HTK.out, List.any_append, HA.out]; simpa using hx2⟩
        case measure => simp [intOf]; omega
    · have hkl : k = g.lines.length := by omega
      subst hkl
      have HA2 : Hid (g.lines.any (fun x => decide (40 < x.text.size)) = false) := by have := HA.out; rw [List.take_length] at this; exact Lib.hid this
      have HB : Hid (g.big = (decide ((16 : Int) < g.lines.length) || decide ((60 : Int) < g.edges.length))) := by
        show _ = _
        unfold Gr.big
        rw [HA2.out, Bool.false_or, Bool.eq_iff_iff]
        simp only [Bool.or_eq_true, decide_eq_true_eq]
        omega
      by_cases h16 : (16 : Int) < g.lines.length
      · go_wp2
        go_ret
        refine ⟨?_, hB0.out⟩
        rw [HB.out, decide_eq_true h16]; rfl
      · go_wp2
        go_ret
        refine ⟨?_, hB0.out⟩
        rw [HB.out, (decide_eq_false (by omega) : decide ((16 : Int) < g.lines.length) = false)]; rfl

def bigIdx (g : Gr) : Int := if g.big then 0 else -1
theorem bigIdx_true {g : Gr} (h : g.big = true) : bigIdx g = 0 := by unfold bigIdx; rw [if_pos h]
theorem bigIdx_false {g : Gr} (h : g.big = false) : bigIdx g = -1 := by unfold bigIdx; rw [h]; rfl

set_option maxRecDepth 100000 in
set_option maxHeartbeats 2000000 in
theorem IndexFuncGraph_one (vl ve : Value) (B c : Nat) (g : Gr) (w : World) (hg : GrIn w vl ve g) (h0 : w.cell? ⟨B, 0, none⟩ = some vl) (h1 : w.cell? ⟨B, 1, none⟩ = some ve) :
    Calls Tryz.prog 68 #[.slice (some ⟨B, 0, none⟩) 1 c, .func (.func 35) #[] #[]] w fun e w' => e = .returned (.int .i64 (bigIdx g)) ∧ Below w.heap.size w w' := by
  obtain ⟨al, cl, ml, rfl⟩ : ∃ a c m, vl = .slice a m c := by obtain ⟨a, c, h, _⟩ := hg.lines; exact ⟨a, c, _, h⟩
  obtain ⟨ae, ce, me, rfl⟩ : ∃ a c m, ve = .slice a m c := by obtain ⟨a, c, h, _⟩ := hg.edges; exact ⟨a, c, _, h⟩
  have HG := Lib.hid (Great_any _ _ g w hg)
  clear hg
  have hbl := cell_lt h0
  go_enter Tryz.func68, Tryz.ntmps68
  go_wp2
  go_loopw [8] (fun i wr => (i = .int .i64 0 ∧ wr = w) ∨ (i = .int .i64 1 ∧ g.big = false ∧ Below w.heap.size w wr)) (fun i _ => 1 - (intOf i).toNat)
  case atStart => exact .inl ⟨rfl, rfl⟩
  case round =>
    rcases hrel with ⟨rfl, rfl⟩ | ⟨rfl, hb, hB⟩
    · cases hbg : g.big with
      | true =>
        rw [hbg] at HG
        go_wp2_with fail
        refine HG.out.mono ?_
        rintro e w1 ⟨rfl, hb1⟩
        go_wp2
        go_ret
        exact ⟨ret_int (bigIdx_true hbg).symm, hb1⟩
      | false =>
        rw [hbg] at HG
        go_wp2_with fail
        refine HG.out.mono ?_
        rintro e w1 ⟨rfl, hb1⟩
        go_wp2
        go_roundw
        case rel => exact .inr ⟨rfl, trivial, hb1⟩
        case measure => simp [intOf]
    · have HBG := Lib.hid hb
      clear hb
      go_wp2
      go_ret
      exact ⟨ret_int (bigIdx_false HBG.out).symm, hB⟩

set_option maxRecDepth 100000 in
theorem ContainsFuncGraph_one (vl ve : Value) (B c : Nat) (g : Gr) (w : World) (hg : GrIn w vl ve g) (h0 : w.cell? ⟨B, 0, none⟩ = some vl) (h1 : w.cell? ⟨B, 1, none⟩ = some ve) :
    Calls Tryz.prog 34 #[.slice (some ⟨B, 0, none⟩) 1 c, .func (.func 35) #[] #[]] w fun e w' => e = .returned (.bool g.big) ∧ Below w.heap.size w w' := by
  have HG := Lib.hid (IndexFuncGraph_one vl ve B c g w hg h0 h1)
  clear hg h0 h1
  cases hb : g.big with
  | true =>
    rw [bigIdx_true hb] at HG
    clear hb
    go_enter Tryz.func34, Tryz.ntmps34
    go_wp2_with fail
    refine HG.out.mono ?_
    rintro e w1 ⟨rfl, hb1⟩
    go_wp2
    go_ret
    exact ⟨rfl, hb1⟩
  | false =>
    rw [bigIdx_false hb] at HG
    clear hb
    go_enter Tryz.func34, Tryz.ntmps34
    go_wp2_with fail
    refine HG.out.mono ?_
    rintro e w1 ⟨rfl, hb1⟩
    go_wp2
    go_ret
    exact ⟨rfl, hb1⟩

set_option maxRecDepth 100000 in
theorem great_one (vl ve : Value) (B c : Nat) (g : Gr) (w : World) (hg : GrIn w vl ve g) (h0 : w.cell? ⟨B, 0, none⟩ = some vl) (h1 : w.cell? ⟨B, 1, none⟩ = some ve) :
    Calls Tryz.prog 7 #[.slice (some ⟨B, 0, none⟩) 1 c] w fun e w' => e = .returned (.bool g.big) ∧ Below w.heap.size w w' := by
  have HG := Lib.hid (ContainsFuncGraph_one vl ve B c g w hg h0 h1)
  clear hg h0 h1
  go_enter Tryz.func7, Tryz.ntmps7
  go_wp2_with fail
  refine HG.out.mono ?_
  rintro e w1 ⟨rfl, hb1⟩
  go_wp2
  go_ret
  exact ⟨rfl, hb1⟩
end Go.Proofs.Lg
