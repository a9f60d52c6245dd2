/-
  Part C5 of this claim's proof. Joined by merge.py from the texts of wip/tpl.
-/
import Derived.Test.YtclholnhkhjjaaaGreatC4
set_option linter.unusedVariables false
set_option linter.unusedSimpArgs false
set_option linter.unnecessarySimpa false
namespace Go.Proofs.Lg
open Go Go.RowKit

/-! ### What a valid graph gives -/

def okEdges (n : Nat) (l : List (Int × Int)) : Prop := ∀ e ∈ l, (-1 ≤ e.1 ∧ e.1 < n) ∧ (-1 ≤ e.2 ∧ e.2 < n) ∧ e.1 ≠ e.2

theorem edgesErr_ok (n : Nat) : ∀ (l : List (Int × Int)) (p : Option (Int × Int)), edgesErr n p l = 0 → okEdges n l
  | [], _, _ => by simp [okEdges]
  | e :: l, p, h => by
    have key : (outB n e.1 || outB n e.2) = false ∧ e.1 ≠ e.2 ∧ edgesErr n (some e) l = 0 := by
      cases p with
      | none =>
        simp only [edgesErr] at h
        by_cases h1 : (outB n e.1 || outB n e.2) = true
        · simp [h1] at h
        · by_cases h2 : e.1 = e.2
          · rw [if_neg h1, if_pos h2] at h; omega
          · rw [if_neg h1, if_neg h2] at h; exact ⟨by simpa using h1, h2, h⟩
      | some p =>
        simp only [edgesErr] at h
        by_cases h1 : (outB n e.1 || outB n e.2) = true
        · simp [h1] at h
        · by_cases h2 : e.1 = e.2
          · rw [if_neg h1, if_pos h2] at h; omega
          · by_cases h3 : 0 ≤ cmpEdge p e
            · simp [h1, h2, h3] at h
            · rw [if_neg h1, if_neg h2, if_neg h3] at h; exact ⟨by simpa using h1, h2, h⟩
    obtain ⟨h1, h2, h3⟩ := key
    have ih := edgesErr_ok n l (some e) h3
    intro x hx
    rcases List.mem_cons.1 hx with rfl | hx
    · simp only [outB, Bool.or_eq_false_iff, decide_eq_false_iff_not] at h1
      exact ⟨by omega, by omega, h2⟩
    · exact ih x hx

theorem Gr.check_ok {g : Gr} (h : g.check = 0) : linesOk g.lines = true ∧ okEdges g.lines.length g.edges := by
  unfold Gr.check at h
  by_cases hl : linesOk g.lines = true
  · simp only [hl, if_true] at h
    exact ⟨hl, edgesErr_ok _ _ _ h⟩
  · simp [hl] at h

theorem Gr.followers_length (g : Gr) : g.followers.length = g.lines.length := by simp [Gr.followers, fol_length]

theorem fol_valid (n : Nat) (l : List (Int × Int)) (hl : okEdges n l) : ∀ rows : List (List Int), (∀ r ∈ rows, ∀ x ∈ r, 0 ≤ x ∧ x < n) → ∀ r ∈ l.foldl folStep rows, ∀ x ∈ r, 0 ≤ x ∧ x < (n : Int) := by
  induction l with
  | nil => intro rows h; simpa using h
  | cons e l ih =>
    intro rows h
    refine ih (fun x hx => hl x (by simp [hx])) (folStep rows e) fun r hr x hx => ?_
    have he := hl e (by simp)
    unfold folStep at hr
    split at hr
    · obtain ⟨i, hi, rfl⟩ := List.mem_iff_getElem.1 hr
      rw [List.getElem_modify] at hx
      simp only [List.length_modify] at hi
      split at hx
      · rcases List.mem_append.1 hx with hx | hx
        · exact h _ (List.getElem_mem _) x hx
        · simp at hx; subst hx; omega
      · exact h _ (List.getElem_mem _) x hx
    · exact h r hr x hx

theorem Gr.followers_valid {g : Gr} (h : okEdges g.lines.length g.edges) : ∀ r ∈ g.followers, ∀ x ∈ r, 0 ≤ x ∧ x < (g.followers.length : Int) := by
  rw [g.followers_length]
  exact fol_valid _ _ h _ (by simp)

def rowSum : List (List Int) → Nat
  | [] => 0
  | r :: rows => r.length + rowSum rows

theorem rowSum_modify (rows : List (List Int)) (x : Int) : ∀ i, rowSum (rows.modify i (· ++ [x])) ≤ rowSum rows + 1 := by
  induction rows with
  | nil => intro i; simp [rowSum]
  | cons r rows ih =>
    intro i
    cases i with
    | zero => simp [rowSum]; omega
    | succ i => have := ih i; simp [rowSum]; omega

theorem rowSum_fol (l : List (Int × Int)) : ∀ rows : List (List Int), rowSum (l.foldl folStep rows) ≤ rowSum rows + l.length := by
  induction l with
  | nil => intro rows; simp
  | cons e l ih =>
    intro rows
    have h1 := ih (folStep rows e)
    have h2 : rowSum (folStep rows e) ≤ rowSum rows + 1 := by
      unfold folStep
      split
      · exact rowSum_modify _ _ _
      · omega
    simp; omega

theorem rowSum_nil (n : Nat) : rowSum (List.replicate n []) = 0 := by
  induction n with
  | zero => rfl
  | succ n ih => simp [List.replicate_succ, rowSum, ih]

theorem pot_false : ∀ rows : List (List Int), pot rows (List.replicate rows.length false) = rowSum rows + rows.length
  | [] => rfl
  | r :: rows => by simp [List.replicate_succ, pot, rowSum, pot_false rows]; omega

theorem row_le_sum : ∀ (rows : List (List Int)) (i : Nat), (rows.getD i []).length ≤ rowSum rows
  | [], i => by simp
  | r :: rows, 0 => by simp [rowSum]
  | r :: rows, i + 1 => by have := row_le_sum rows i; simp only [List.getD_cons_succ, rowSum]; omega

theorem Gr.pot_le (g : Gr) (hl : g.lines.length ≤ 1000000) (he : g.edges.length ≤ 1000000) (i : Nat) : pot g.followers (List.replicate g.followers.length false) + (g.followers.getD i []).length ≤ 5000000 := by
  have h1 := rowSum_fol g.edges (List.replicate g.lines.length [])
  rw [rowSum_nil] at h1
  have h2 := row_le_sum g.followers i
  have h3 := g.followers_length
  rw [pot_false]
  unfold Gr.followers at *
  omega

/-- Which lines reach which ones. -/
def Gr.reach (g : Gr) : List (List Bool) := if g.check = 0 then (List.range g.lines.length).map (fromRow g.followers) else []

theorem info_bools : (Tryz.prog.info? 140).map (fun i => (i.zero, i.size, i.bytes)) = some (some (.slice none 0 0), 1, 24) := by kernel_rfl

set_option maxHeartbeats 4000000 in
set_option maxRecDepth 100000 in
theorem Reaches_any (vl ve : Value) (g : Gr) (w : World) (hg : GrAt w vl ve g) :
    Calls Tryz.prog 69 #[.agg #[vl, ve]] w fun e w' => ∃ v, e = .returned v ∧ SlOfP (fun b => w.heap.size ≤ b) w' v (g.reach.map bools) ∧ Below w.heap.size w w' := by
  by_cases hck : g.check = 0
  · have h1 : (g.check == 0) = true := by simp [hck]
    have h2 : (g.check != 0) = false := by simp [hck]
    obtain ⟨hlo, hok⟩ := Gr.check_ok hck
    have HCK := Lib.hid hck
    have HOK := Lib.hid hok
    clear hck hok hlo
    go_enter Tryz.func69, Tryz.ntmps69
    go_wp2_with fail
    refine (Check_any vl ve g _ (hg.below ((Below.refl _ _).alloc (Nat.le_refl _) _))).mono ?_
    rintro e w1 ⟨rfl, hb1⟩
    have hx0 : w1.cell? ⟨w.heap.size, 0, none⟩ = some vl := below_cell hb1 (by simp [go_sem])
    have hx1 : w1.cell? ⟨w.heap.size, 1, none⟩ = some ve := below_cell hb1 (by simp [go_sem])
    have hbw1 : Below w.heap.size w w1 := ((Below.refl _ _).alloc (Nat.le_refl _) _).trans (hb1.mono (by simp))
    clear hb1
    go_wp2_with fail
    refine (followers_any vl ve g _ (hg.below hbw1) (fun e he => (HOK.out e he).1.2)).mono ?_
    rintro e w2 ⟨v2, rfl, hs2, hb2⟩
    have hn := g.followers_length
    have hbw2 := hbw1.trans (hb2.mono hbw1.size)
    obtain ⟨vs2, hv2⟩ : ∃ vs2, SlAt w2 v2 vs2 ∧ vs2.length = g.lines.length := by
      obtain ⟨vs, h1, h2, _⟩ := hs2
      exact ⟨vs, h1, by simpa [hn] using h2⟩
    obtain ⟨⟨a2, c2, rfl, hc1, hc2, _⟩, hl2⟩ := hv2
    rw [hl2] at hs2 hc1 ⊢
    have hmk := run_make_row' (P := Tryz.prog) 76 140 (.slice none 0 0) 24 Tryz.underlying76 info_bools rfl .i64 .i64 g.lines.length (by have := hg.few; omega) (by have := hg.few; omega)
    obtain ⟨C0, hC0⟩ : ∃ C0, C0 = Go.madeCells #[Value.slice none 0 0] g.lines.length := ⟨_, rfl⟩
    rw [← hC0] at hmk
    have HC0 := Lib.hid hC0
    have HS2 := Lib.hid hs2
    have HG := Lib.hid hg
    have HN := Lib.hid hn
    clear hC0 hs2 hg hn hl2 hb2 hx0 hx1
    go_wp2
    have HST : Hid ((w2.alloc (.cells C0 140)).heap[w2.heap.size]? = some (.cells C0 140 (0, 0))) := heap_alloc_new w2 _
    go_loopg [16, 5] (g.lines.length + 1) (fun gk i _ wr => ∃ (k : Nat) (vs : List Value), i = .int .i64 k ∧ k ≤ g.lines.length ∧ gk + k = g.lines.length + 1 ∧ vs.length = g.lines.length ∧ wr.heap[w2.heap.size]? = some (.cells vs.toArray 140 (0, 0)) ∧
      (∀ j, j < k → ∃ u, vs[j]? = some u ∧ SlAt wr u (bools (fromRow g.followers j)) ∧ ∀ b, u.ownBlock = some b → w2.heap.size < b) ∧ Below w2.heap.size w2 wr)
    case atStart =>
      exact ⟨0, List.replicate g.lines.length (.slice none 0 0), rfl, Nat.zero_le _, by omega, by simp, by rw [HST.out, HC0.out, Go.madeCells_one], fun j hj => by omega, (Below.refl _ _).alloc (Nat.le_refl _) _⟩
    case round =>
      obtain ⟨k, vs, rfl, hk, hgk, hvl, hh, hrows, hB⟩ := hrel
      have HH := Lib.hid hh
      have HR := Lib.hid hrows
      have HV := Lib.hid hvl
      have hBw := hbw2.trans (hB.mono hbw2.size)
      clear hh hrows hvl HST
      by_cases hlt : k < g.lines.length
      · go_wp2_with fail
        refine (from_any g.followers _ k _ (HS2.out.below hB) (by rw [HN.out]; exact hlt) (by rw [HN.out]; exact HG.out.few) (Gr.pot_le g HG.out.few HG.out.fewe k) (Gr.followers_valid HOK.out)).mono ?_
        rintro e w3 ⟨v3, rfl, hs3, ho3, hb3⟩
        obtain ⟨a3, c3, hv3⟩ : ∃ a c, v3 = .slice a (bools (fromRow g.followers k)).length c := by obtain ⟨a, c, h, _⟩ := hs3; exact ⟨a, c, h⟩
        subst hv3
        have hh3 := heap_below hb3 HH.out
        have hc3 : w3.cell? ⟨w2.heap.size, k, none⟩ = some (vs[k]'(by rw [HV.out]; exact hlt)) := by rw [cell_of_heap hh3]; simp
        have hf3 : w3.frozen? ⟨w2.heap.size, k, none⟩ = false := frozen_of_heap hh3
        have HH3 := Lib.hid hh3
        have HS3 := Lib.hid hs3
        have HO3 := Lib.hid ho3
        have HL2 : Hid (w2.heap.size < wr.heap.size) := (Array.getElem?_eq_some_iff.1 HH.out).1
        have hlt2 := HL2.out
        generalize vs[k]'(by rw [HV.out]; exact hlt) = old at hc3
        clear hh3 hs3 ho3
        go_wp2
        go_roundg (gk - 1)
        case measure => omega
        case rel =>
          have hw3 : w2.heap.size < w3.heap.size := (Array.getElem?_eq_some_iff.1 HH3.out).1
          refine ⟨k + 1, vs.set k (.slice a3 (bools (fromRow g.followers k)).length c3), by go_num, by omega, by omega, by simp [HV.out], by rw [heap_setCell_same HH3.out]; simp, fun j hj => ?_, ?_⟩
          · by_cases hjk : j = k
            · subst hjk
              exact ⟨_, by rw [List.getElem?_set_self (by rw [HV.out]; exact hlt)], HS3.out.setCell (fun e => by have := HO3.out _ e; have := HL2.out; simp at *; omega) _, fun b e => by have := HO3.out _ e; have := HL2.out; omega⟩
            · obtain ⟨u, hu1, hu2, hu3⟩ := HR.out j (by omega)
              exact ⟨u, by rw [List.getElem?_set_ne (by omega)]; exact hu1, (hu2.below hb3).setCell (fun e => absurd (hu3 w2.heap.size e) (Nat.lt_irrefl _)) _, hu3⟩
          · exact (hB.trans (hb3.mono hB.size)).setCell (Nat.le_refl _) _
      · have HK : Hid (k = g.lines.length) := by show k = _; omega
        clear hgk
        go_wp2
        go_ret
        refine ⟨.slice (some ⟨w2.heap.size, 0, none⟩) g.lines.length g.lines.length, rfl, ?_, hBw⟩
        unfold Gr.reach
        rw [if_pos HCK.out]
        have hfew := HG.out.few
        have hwlt := hbw2.size
        refine ⟨vs, (SlAt.mk HV.out (Nat.le_refl _) (by omega) fun j u hu => ?_).slAtP_of (fun b e => by have : w2.heap.size = b := Option.some.inj e; omega), by simp [HV.out], fun j u r hu hr => ?_⟩
        · rw [Nat.zero_add, cell_of_heap HH.out]; simpa using hu
        · have hj : j < g.lines.length := by have := (List.getElem?_eq_some_iff.1 hu).1; rw [HV.out] at this; exact this
          obtain ⟨u', h1, h2, h3⟩ := HR.out j (by rw [HK.out]; exact hj)
          rw [hu] at h1
          obtain rfl := Option.some.inj h1
          have : r = bools (fromRow g.followers j) := by
            rw [List.getElem?_map, List.getElem?_map, List.getElem?_range hj] at hr
            exact (Option.some.inj hr).symm
          rw [this]; exact h2.slAtP_of (fun b e => by have := h3 b e; omega)
  · have h1 : (g.check == 0) = false := by simp [hck]
    have h2 : (g.check != 0) = true := by simp [hck]
    have HCK := Lib.hid hck
    clear hck
    go_enter Tryz.func69, Tryz.ntmps69
    go_wp2_with (go_at_call 54; refine (Check_any vl ve g _ (hg.below ((Below.refl _ _).alloc (Nat.le_refl _) _))).mono ?_; rintro e w1 ⟨rfl, hb1⟩)
    go_ret
    refine ⟨_, rfl, ?_, ((Below.refl _ _).alloc (Nat.le_refl _) _).trans (hb1.mono (by simp))⟩
    unfold Gr.reach
    rw [if_neg HCK.out]
    exact ⟨[], (SlAt.nil _).slAtP_of (fun b e => by cases e), rfl, by simp⟩

/-- Whether a line is before another one. -/
def Gr.before (g : Gr) (i j : Nat) : Bool := (fromRow g.followers i).getD j false && !(fromRow g.followers j).getD i false

theorem fromF_length (next : List (List Int)) : ∀ (f : Nat) (todo : List Int) (out : List Bool), (fromF next f todo out).length = out.length
  | 0, _, _ => rfl
  | f + 1, todo, out => by
    simp only [fromF]
    split
    · rfl
    · split <;> simp [fromF_length next f]
theorem fromRow_length (next : List (List Int)) (i : Nat) : (fromRow next i).length = next.length := by simp [fromRow, fromF_length]

end Go.Proofs.Lg
