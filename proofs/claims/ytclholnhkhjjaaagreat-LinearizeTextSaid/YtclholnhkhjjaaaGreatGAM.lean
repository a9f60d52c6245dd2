/-
  Part GAM of this claim's proof. Joined by merge.py from the texts of wip/tpl.
-/
import Derived.Test.YtclholnhkhjjaaaGreatGAC
import Derived.Shelf.Abstract
set_option linter.unusedVariables false
set_option linter.unusedSimpArgs false
set_option linter.unnecessarySimpa false
namespace Go.Proofs.Lg
open Go Go.RowKit
def okEdges (n : Nat) (l : List (Int × Int)) : Prop := ∀ e ∈ l, (-1 ≤ e.1 ∧ e.1 < n) ∧ (-1 ≤ e.2 ∧ e.2 < n) ∧ e.1 ≠ e.2
theorem edgesErr_ok (n : Nat) : ∀ (l : List (Int × Int)) (p : Option (Int × Int)), edgesErr n p l = 0 → okEdges n l
 | [], _, _ => by simp [okEdges]
 | e :: l, p, h => by
   have key : (outB n e.1 || outB n e.2) = false ∧ e.1 ≠ e.2 ∧ edgesErr n (some e) l = 0 := by
     cases p with
     | none =>
       simp only [edgesErr] at h
       by_cases h1 : (outB n e.1 || outB n e.2) = true
       · simp [h1] at h
       · by_cases h2 : e.1 = e.2
         · rw [if_neg h1, if_pos h2] at h; omega
         · rw [if_neg h1, if_neg h2] at h; exact ⟨by simpa using h1, h2, h⟩
     | some p =>
       simp only [edgesErr] at h
       by_cases h1 : (outB n e.1 || outB n e.2) = true
       · simp [h1] at h
       · by_cases h2 : e.1 = e.2
         · rw [if_neg h1, if_pos h2] at h; omega
         · by_cases h3 : 0 ≤ cmpEdge p e
           · simp [h1, h2, h3] at h
           · rw [if_neg h1, if_neg h2, if_neg h3] at h; exact ⟨by simpa using h1, h2, h⟩
   obtain ⟨h1, h2, h3⟩ := key
   have ih := edgesErr_ok n l (some e) h3
   intro x hx
   rcases List.mem_cons.1 hx with rfl | hx
   · simp only [outB, Bool.or_eq_false_iff, decide_eq_false_iff_not] at h1
     exact ⟨by omega, by omega, h2⟩
   · exact ih x hx
theorem Gr.check_ok {g : Gr} (h : g.check = 0) : linesOk g.lines = true ∧ okEdges g.lines.length g.edges := by
 unfold Gr.check at h
 by_cases hl : linesOk g.lines = true
 · simp only [hl, if_true] at h
   exact ⟨hl, edgesErr_ok _ _ _ h⟩
 · simp [hl] at h
theorem Gr.followers_length (g : Gr) : g.followers.length = g.lines.length := by simp [Gr.followers, fol_length]
theorem fol_valid (n : Nat) (l : List (Int × Int)) (hl : okEdges n l) : ∀ rows : List (List Int), (∀ r ∈ rows, ∀ x ∈ r, 0 ≤ x ∧ x < n) → ∀ r ∈ l.foldl folStep rows, ∀ x ∈ r, 0 ≤ x ∧ x < (n : Int) := by
 induction l with
 | nil => intro rows h; simpa using h
 | cons e l ih =>
   intro rows h
   refine ih (fun x hx => hl x (by simp [hx])) (folStep rows e) fun r hr x hx => ?_
   have he := hl e (by simp)
   unfold folStep at hr
   split at hr
   · obtain ⟨i, hi, rfl⟩ := List.mem_iff_getElem.1 hr
     rw [List.getElem_modify] at hx
     simp only [List.length_modify] at hi
     split at hx
     · rcases List.mem_append.1 hx with hx | hx
       · exact h _ (List.getElem_mem _) x hx
       · simp at hx; subst hx; omega
     · exact h _ (List.getElem_mem _) x hx
   · exact h r hr x hx
theorem Gr.followers_valid {g : Gr} (h : okEdges g.lines.length g.edges) : ∀ r ∈ g.followers, ∀ x ∈ r, 0 ≤ x ∧ x < (g.followers.length : Int) := by
 rw [g.followers_length]
 exact fol_valid _ _ h _ (by simp)
def rowSum : List (List Int) → Nat
 | [] => 0
 | r :: rows => r.length + rowSum rows
theorem rowSum_modify (rows : List (List Int)) (x : Int) : ∀ i, rowSum (rows.modify i (· ++ [x])) ≤ rowSum rows + 1 := by
 induction rows with
 | nil => intro i; simp [rowSum]
 | cons r rows ih =>
   intro i
   cases i with
   | zero => simp [rowSum]; omega
   | succ i => have := ih i; simp [rowSum]; omega
theorem rowSum_fol (l : List (Int × Int)) : ∀ rows : List (List Int), rowSum (l.foldl folStep rows) ≤ rowSum rows + l.length := by
 induction l with
 | nil => intro rows; simp
 | cons e l ih =>
   intro rows
   have h1 := ih (folStep rows e)
   have h2 : rowSum (folStep rows e) ≤ rowSum rows + 1 := by
     unfold folStep
     split
     · exact rowSum_modify _ _ _
     · omega
   simp; omega
theorem rowSum_nil (n : Nat) : rowSum (List.replicate n []) = 0 := by
 induction n with
 | zero => rfl
 | succ n ih => simp [List.replicate_succ, rowSum, ih]
theorem pot_false : ∀ rows : List (List Int), pot rows (List.replicate rows.length false) = rowSum rows + rows.length
 | [] => rfl
 | r :: rows => by simp [List.replicate_succ, pot, rowSum, pot_false rows]; omega
theorem row_le_sum : ∀ (rows : List (List Int)) (i : Nat), (rows.getD i []).length ≤ rowSum rows
 | [], i => by simp
 | r :: rows, 0 => by simp [rowSum]
 | r :: rows, i + 1 => by have := row_le_sum rows i; simp only [List.getD_cons_succ, rowSum]; omega
theorem Gr.pot_le (g : Gr) (hl : g.lines.length ≤ 1000000) (he : g.edges.length ≤ 1000000) (i : Nat) : pot g.followers (List.replicate g.followers.length false) + (g.followers.getD i []).length ≤ 5000000 := by
 have h1 := rowSum_fol g.edges (List.replicate g.lines.length [])
 rw [rowSum_nil] at h1
 have h2 := row_le_sum g.followers i
 have h3 := g.followers_length
 rw [pot_false]
 unfold Gr.followers at *
 omega
def Gr.reach (g : Gr) : List (List Bool) := if g.check = 0 then (List.range g.lines.length).map (fromRow g.followers) else []
theorem info_bools : (Tryz.prog.info? 140).map (fun i => (i.zero, i.size, i.bytes)) = some (some (.slice none 0 0), 1, 24) := by kernel_rfl
set_option maxHeartbeats 4000000 in
set_option maxRecDepth 100000 in
theorem Reaches_any (vl ve : Value) (g : Gr) (w : World) (hg : GrAt w vl ve g) :
   Calls Tryz.prog 69 #[.agg #[vl, ve]] w fun e w' => ∃ v, e = .returned v ∧ SlOfP (fun b => w.heap.size ≤ b) w' v (g.reach.map bools) ∧ Below w.heap.size w w' := by
 by_cases hck : g.check = 0
 · have h1 : (g.check == 0) = true := by simp [hck]
   have h2 : (g.check != 0) = false := by simp [hck]
   obtain ⟨hlo, hok⟩ := Gr.check_ok hck
   have HCK := Lib.hid hck
   have HOK := Lib.hid hok
   clear hck hok hlo
   go_enter Tryz.func69, Tryz.ntmps69
   go_wp2_with fail
   refine (Check_any vl ve g _ (hg.below ((Below.refl _ _).alloc (Nat.le_refl _) _))).mono ?_
   rintro e w1 ⟨rfl, hb1⟩
   have hx0 : w1.cell? ⟨w.heap.size, 0, none⟩ = some vl := below_cell hb1 (by simp [go_sem])
   have hx1 : w1.cell? ⟨w.heap.size, 1, none⟩ = some ve := below_cell hb1 (by simp [go_sem])
   have hbw1 : Below w.heap.size w w1 := ((Below.refl _ _).alloc (Nat.le_refl _) _).trans (hb1.mono (by simp))
   clear hb1
   go_wp2_with fail
   refine (followers_any vl ve g _ (hg.below hbw1) (fun e he => (HOK.out e he).1.2)).mono ?_
   rintro e w2 ⟨v2, rfl, hs2, hb2⟩
   have hn := g.followers_length
   have hbw2 := hbw1.trans (hb2.mono hbw1.size)
   obtain ⟨vs2, hv2⟩ : ∃ vs2, SlAt w2 v2 vs2 ∧ vs2.length = g.lines.length := by
     obtain ⟨vs, h1, h2, _⟩ := hs2
     exact ⟨vs, h1, by simpa [hn] using h2⟩
   obtain ⟨⟨a2, c2, rfl, hc1, hc2, _⟩, hl2⟩ := hv2
   rw [hl2] at hs2 hc1 ⊢
   have hmk := run_make_row' (P := Tryz.prog) 76 140 (.slice none 0 0) 24 Tryz.underlying76 info_bools rfl .i64 .i64 g.lines.length (by have := hg.few; omega) (by have := hg.few; omega)
   obtain ⟨C0, hC0⟩ : ∃ C0, C0 = Go.madeCells #[Value.slice none 0 0] g.lines.length := ⟨_, rfl⟩
   rw [← hC0] at hmk
   have HC0 := Lib.hid hC0
   have HS2 := Lib.hid hs2
   have HG := Lib.hid hg
   have HN := Lib.hid hn
   clear hC0 hs2 hg hn hl2 hb2 hx0 hx1
   go_wp2
   have HST : Hid ((w2.alloc (.cells C0 140)).heap[w2.heap.size]? = some (.cells C0 140 (0, 0))) := heap_alloc_new w2 _
   go_loopg [16, 5] (g.lines.length + 1) (fun gk i _ wr => ∃ (k : Nat) (vs : List Value), i = .int .i64 k ∧ k ≤ g.lines.length ∧ gk + k = g.lines.length + 1 ∧ vs.length = g.lines.length ∧ wr.heap[w2.heap.size]? = some (.cells vs.toArray 140 (0, 0)) ∧
     (∀ j, j < k → ∃ u, vs[j]? = some u ∧ SlAt wr u (bools (fromRow g.followers j)) ∧ ∀ b, u.ownBlock = some b → w2.heap.size < b) ∧ Below w2.heap.size w2 wr)
   case atStart =>
     exact ⟨0, List.replicate g.lines.length (.slice none 0 0), rfl, Nat.zero_le _, by omega, by simp, by rw [HST.out, HC0.out, Go.madeCells_one], fun j hj => by omega, (Below.refl _ _).alloc (Nat.le_refl _) _⟩
   case round =>
     obtain ⟨k, vs, rfl, hk, hgk, hvl, hh, hrows, hB⟩ := hrel
     have HH := Lib.hid hh
     have HR := Lib.hid hrows
     have HV := Lib.hid hvl
     have hBw := hbw2.trans (hB.mono hbw2.size)
     clear hh hrows hvl HST
     by_cases hlt : k < g.lines.length
     · go_wp2_with fail
       refine (from_any g.followers _ k _ (HS2.out.below hB) (by rw [HN.out]; exact hlt) (by rw [HN.out]; exact HG.out.few) (Gr.pot_le g HG.out.few HG.out.fewe k) (Gr.followers_valid HOK.out)).mono ?_
       rintro e w3 ⟨v3, rfl, hs3, ho3, hb3⟩
       obtain ⟨a3, c3, hv3⟩ : ∃ a c, v3 = .slice a (bools (fromRow g.followers k)).length c := by obtain ⟨a, c, h, _⟩ := hs3; exact ⟨a, c, h⟩
       subst hv3
       have hh3 := heap_below hb3 HH.out
       have hc3 : w3.cell? ⟨w2.heap.size, k, none⟩ = some (vs[k]'(by rw [HV.out]; exact hlt)) := by rw [cell_of_heap hh3]; simp
       have hf3 : w3.frozen? ⟨w2.heap.size, k, none⟩ = false := frozen_of_heap hh3
       have HH3 := Lib.hid hh3
       have HS3 := Lib.hid hs3
       have HO3 := Lib.hid ho3
       have HL2 : Hid (w2.heap.size < wr.heap.size) := (Array.getElem?_eq_some_iff.1 HH.out).1
       have hlt2 := HL2.out
       generalize vs[k]'(by rw [HV.out]; exact hlt) = old at hc3
       clear hh3 hs3 ho3
       go_wp2
       go_roundg (gk - 1)
       case measure => omega
       case rel =>
         have hw3 : w2.heap.size < w3.heap.size := (Array.getElem?_eq_some_iff.1 HH3.out).1
         refine ⟨k + 1, vs.set k (.slice a3 (bools (fromRow g.followers k)).length c3), by go_num, by omega, by omega, by simp [HV.out], by rw [heap_setCell_same HH3.out]; simp, fun j hj => ?_, ?_⟩
         · by_cases hjk : j = k
           · subst hjk
             exact ⟨_, by rw [List.getElem?_set_self (by rw [HV.out]; exact hlt)], HS3.out.setCell (fun e => by have := HO3.out _ e; have := HL2.out; simp at *; omega) _, fun b e => by have := HO3.out _ e; have := HL2.out; omega⟩
           · obtain ⟨u, hu1, hu2, hu3⟩ := HR.out j (by omega)
             exact ⟨u, by rw [List.getElem?_set_ne (by omega)]; exact hu1, (hu2.below hb3).setCell (fun e => absurd (hu3 w2.heap.size e) (Nat.lt_irrefl _)) _, hu3⟩
         · exact (hB.trans (hb3.mono hB.size)).setCell (Nat.le_refl _) _
     · have HK : Hid (k = g.lines.length) := by show k = _; omega
       clear hgk
       go_wp2
       go_ret
       refine ⟨.slice (some ⟨w2.heap.size, 0, none⟩) g.lines.length g.lines.length, rfl, ?_, hBw⟩
       unfold Gr.reach
       rw [if_pos HCK.out]
       have hfew := HG.out.few
       have hwlt := hbw2.size
       refine ⟨vs, (SlAt.mk HV.out (Nat.le_refl _) (by omega) fun j u hu => ?_).slAtP_of (fun b e => by have : w2.heap.size = b := Option.some.inj e; omega), by simp [HV.out], fun j u r hu hr => ?_⟩
       · rw [Nat.zero_add, cell_of_heap HH.out]; simpa using hu
       · have hj : j < g.lines.length := by have := (List.getElem?_eq_some_iff.1 hu).1; rw [HV.out] at this; exact this
         obtain ⟨u', h1, h2, h3⟩ := HR.out j (by rw [HK.out]; exact hj)
         rw [hu] at h1
         obtain rfl := Option.some.inj h1
         have : r = bools (fromRow g.followers j) := by
           rw [List.getElem?_map, List.getElem?_map, List.getElem?_range hj] at hr
           exact (Option.some.inj hr).symm
         rw [this]; exact h2.slAtP_of (fun b e => by have := h3 b e; omega)
 · have h1 : (g.check == 0) = false := by simp [hck]
   have h2 : (g.check != 0) = true := by simp [hck]
   have HCK := Lib.hid hck
   clear hck
   go_enter Tryz.func69, Tryz.ntmps69
   go_wp2_with (go_at_call 54; refine (Check_any vl ve g _ (hg.below ((Below.refl _ _).alloc (Nat.le_refl _) _))).mono ?_; rintro e w1 ⟨rfl, hb1⟩)
   go_ret
   refine ⟨_, rfl, ?_, ((Below.refl _ _).alloc (Nat.le_refl _) _).trans (hb1.mono (by simp))⟩
   unfold Gr.reach
   rw [if_neg HCK.out]
   exact ⟨[], (SlAt.nil _).slAtP_of (fun b e => by cases e), rfl, by simp⟩
def Gr.before (g : Gr) (i j : Nat) : Bool := (fromRow g.followers i).getD j false && !(fromRow g.followers j).getD i false
theorem fromF_length (next : List (List Int)) : ∀ (f : Nat) (todo : List Int) (out : List Bool), (fromF next f todo out).length = out.length
 | 0, _, _ => rfl
 | f + 1, todo, out => by
   simp only [fromF]
   split
   · rfl
   · split <;> simp [fromF_length next f]
theorem fromRow_length (next : List (List Int)) (i : Nat) : (fromRow next i).length = next.length := by simp [fromRow, fromF_length]
end Go.Proofs.Lg

namespace Go.Proofs.Lg
open Go Go.RowKit
def rel (rows : List (List Bool)) (i j : Nat) : Bool := (rows.getD i []).getD j false
def bef (rows : List (List Bool)) (i j : Nat) : Bool := rel rows i j && !rel rows j i
def relat (rows : List (List Bool)) (i j : Nat) : Bool := bef rows i j || bef rows j i
def Sq (n : Nat) (rows : List (List Bool)) : Prop := rows.length = n ∧ ∀ r ∈ rows, r.length = n
theorem SlOf.form {w : World} {v : Value} {n : Nat} {rows : List (List Bool)} (h : SlOf w v (rows.map bools)) (hq : Sq n rows) (hn : 0 < n) :
   ∃ b off c, v = .slice (some ⟨b, off, none⟩) n c ∧ ∀ i j, i < n → j < n → ∃ bi oi ci, w.cell? ⟨b, off + i, none⟩ = some (.slice (some ⟨bi, oi, none⟩) n ci) ∧ w.cell? ⟨bi, oi + j, none⟩ = some (.bool (rel rows i j)) := by
 obtain ⟨vs, ⟨a, c, rfl, h1, h2, h3⟩, hlen, hrows⟩ := h
 simp only [List.length_map, hq.1] at hlen
 obtain ⟨b, off, rfl, hc⟩ := h3 (by intro e; subst e; simp at hlen; omega)
 refine ⟨b, off, c, by rw [hlen], fun i j hi hj => ?_⟩
 have hiv : i < vs.length := by omega
 have hir : i < rows.length := by rw [hq.1]; exact hi
 have hlr : rows[i].length = n := hq.2 _ (List.getElem_mem _)
 have hci := hc i vs[i] (List.getElem?_eq_getElem hiv)
 obtain ⟨ai, ci, hvi, k1, k2, k3⟩ := hrows i vs[i] (bools rows[i]) (List.getElem?_eq_getElem hiv) (by rw [List.getElem?_map, List.getElem?_eq_getElem hir]; rfl)
 have hbl : (bools rows[i]).length = n := by simp [bools, hlr]
 obtain ⟨bi, oi, rfl, kc⟩ := k3 (by intro e; rw [e] at hbl; simp at hbl; omega)
 rw [hbl] at hvi
 refine ⟨bi, oi, ci, by rw [hci, hvi], kc j _ ?_⟩
 simp [bools, rel, hir]
 rw [List.getElem?_eq_getElem (by omega)]
 rfl
set_option maxHeartbeats 400000 in
theorem before_any (vl ve vr vv : Value) (n i j : Nat) (rows : List (List Bool)) (w : World) (h : SlOf w vr (rows.map bools)) (hq : Sq n rows) (hi : i < n) (hj : j < n) (hn : n ≤ 1000000) :
   Calls Tryz.prog 75 #[.agg #[vl, ve, vr, vv], .int .i64 i, .int .i64 j] w fun e w' => e = .returned (.bool (bef rows i j)) ∧ Below w.heap.size w w' := by
 obtain ⟨b, off, c, rfl, hc⟩ := h.form hq (by omega)
 obtain ⟨bi, oi, ci, c1, c2⟩ := hc i j hi hj
 obtain ⟨bj, oj, cj, c3, c4⟩ := hc j i hj hi
 have hb := cell_lt c1
 have hbi := cell_lt c2
 have hbj := cell_lt c4
 unfold bef
 generalize rel rows i j = x at c2 ⊢
 generalize rel rows j i = y at c4 ⊢
 clear hc hq h
 cases x <;>
 · go_enter Tryz.func75, Tryz.ntmps75
   go_wp2
   go_ret
   exact ⟨rfl, (Below.refl _ _).alloc (Nat.le_refl _) _⟩
set_option maxHeartbeats 400000 in
theorem related_any (vl ve vr vv : Value) (n i j : Nat) (rows : List (List Bool)) (w : World) (h : SlOf w vr (rows.map bools)) (hq : Sq n rows) (hi : i < n) (hj : j < n) (hn : n ≤ 1000000) :
   Calls Tryz.prog 72 #[.agg #[vl, ve, vr, vv], .int .i64 i, .int .i64 j] w fun e w' => e = .returned (.bool (relat rows i j)) ∧ Below w.heap.size w w' := by
 obtain ⟨b, off, c, rfl, hc⟩ := h.form hq (by omega)
 clear hc
 have H := Lib.hid h
 have HB : Hid (relat rows i j = (bef rows i j || bef rows j i)) := rfl
 clear h
 go_enter Tryz.func72, Tryz.ntmps72
 go_wp2_with fail
 refine (before_any _ _ _ _ n i j rows _ (H.out.below ((Below.refl _ _).alloc (Nat.le_refl _) _)) hq hi hj hn).mono ?_
 rintro e w1 ⟨rfl, hb1⟩
 generalize bef rows i j = x at HB
 have hbw1 : Below w.heap.size w w1 := ((Below.refl _ _).alloc (Nat.le_refl _) _).trans (hb1.mono (by simp))
 have x0 : w1.cell? ⟨w.heap.size, 0, none⟩ = some vl := below_cell hb1 (by simp [go_sem])
 have x1 : w1.cell? ⟨w.heap.size, 1, none⟩ = some ve := below_cell hb1 (by simp [go_sem])
 have x2 : w1.cell? ⟨w.heap.size, 2, none⟩ = some (.slice (some ⟨b, off, none⟩) n c) := below_cell hb1 (by simp [go_sem])
 have x3 : w1.cell? ⟨w.heap.size, 3, none⟩ = some vv := below_cell hb1 (by simp [go_sem])
 clear hb1
 cases x with
 | true =>
   go_wp2
   go_ret
   exact ⟨by rw [HB.out]; rfl, hbw1⟩
 | false =>
   go_wp2_with fail
   refine (before_any _ _ _ _ n j i rows _ (H.out.below hbw1) hq hj hi hn).mono ?_
   rintro e w2 ⟨rfl, hb2⟩
   have hbw2 := hbw1.trans (hb2.mono hbw1.size)
   clear hb2
   go_wp2
   go_ret
   exact ⟨by rw [HB.out]; rfl, hbw2⟩
set_option maxHeartbeats 1000000 in
theorem settled1_any (vl ve vr vv : Value) (n i j Bi Bx : Nat) (rows : List (List Bool)) (w : World) (h : SlOf w vr (rows.map bools)) (hq : Sq n rows) (hi : i < n) (hj : j < n) (hn : n ≤ 1000000)
   (hbi : w.cell? ⟨Bi, 0, none⟩ = some (.int .i64 i)) (x0 : w.cell? ⟨Bx, 0, none⟩ = some vl) (x1 : w.cell? ⟨Bx, 1, none⟩ = some ve) (x2 : w.cell? ⟨Bx, 2, none⟩ = some vr) (x3 : w.cell? ⟨Bx, 3, none⟩ = some vv) :
   Calls Tryz.prog 71 #[.int .i64 j, .pointer (some ⟨Bi, 0, none⟩), .pointer (some ⟨Bx, 0, none⟩)] w fun e w' => e = .returned (.bool (decide (i ≠ j) && !relat rows i j)) ∧ Below w.heap.size w w' := by
 by_cases hij : i = j
 · have h1 : ((i : Int) != (j : Int)) = false := by simp [hij]
   have h2 : ((i : Int) == (j : Int)) = true := by simp [hij]
   have H := Lib.hid hij
   clear hij
   go_enter Tryz.func71, Tryz.ntmps71
   go_wp2
   go_ret
   exact ⟨by simp [H.out], Below.refl _ _⟩
 · have h1 : ((i : Int) != (j : Int)) = true := by simp; omega
   have h2 : ((i : Int) == (j : Int)) = false := by simp; omega
   have H := Lib.hid hij
   have HS := Lib.hid h
   clear hij h
   go_enter Tryz.func71, Tryz.ntmps71
   go_wp2_with (go_at_call 72; refine (related_any _ _ _ _ n i j rows _ HS.out hq hi hj hn).mono ?_; rintro e w1 ⟨rfl, hb1⟩)
   go_ret
   exact ⟨by simp [H.out], hb1⟩
def cmpBef (rows : List (List Bool)) (i j : Nat) : Int := if i = j then 0 else if bef rows i j then -1 else 1
set_option maxHeartbeats 1000000 in
set_option maxHeartbeats 1000000 in
theorem arranged11_any (vl ve vr vv : Value) (n i j Bi Bx : Nat) (rows : List (List Bool)) (w : World) (h : SlOf w vr (rows.map bools)) (hq : Sq n rows) (hi : i < n) (hj : j < n) (hn : n ≤ 1000000)
   (hbi : w.cell? ⟨Bi, 0, none⟩ = some (.int .i64 i)) (x0 : w.cell? ⟨Bx, 0, none⟩ = some vl) (x1 : w.cell? ⟨Bx, 1, none⟩ = some ve) (x2 : w.cell? ⟨Bx, 2, none⟩ = some vr) (x3 : w.cell? ⟨Bx, 3, none⟩ = some vv) :
   Calls Tryz.prog 135 #[.int .i64 j, .pointer (some ⟨Bx, 0, none⟩), .pointer (some ⟨Bi, 0, none⟩)] w fun e w' => e = .returned (.bool (bef rows j i)) ∧ Below w.heap.size w w' := by
 have HS := Lib.hid h
 clear h
 go_enter Tryz.func135, Tryz.ntmps135
 go_wp2_with (go_at_call 75; refine (before_any _ _ _ _ n j i rows _ HS.out hq hj hi hn).mono ?_; rintro e w1 ⟨rfl, hb1⟩)
 go_ret
 exact ⟨rfl, hb1⟩
end Go.Proofs.Lg

namespace Go.Proofs.Lg
open Go Go.RowKit Go.Shelf
def PredOk (P : Program) (g : Nat) (lb : Array Value) (ok : Int → Prop) (p : Int → Bool) (w : World) : Prop :=
 ∀ x, ok x → ∀ W, Below w.heap.size w W → Calls P g (#[Value.int .i64 x] ++ lb) W fun e W' => e = .returned (.bool (p x)) ∧ Below W.heap.size W W'
def idxF (p : Int → Bool) : Nat → List Int → Int
 | _, [] => -1
 | k, x :: l => if p x then k else idxF p (k + 1) l
set_option maxHeartbeats 1000000 in
theorem IndexFuncInt_any (l : List Int) (v : Value) (g : Nat) (lb : Array Value) (ok : Int → Prop) (p : Int → Bool) (w : World) (h : SlAt w v (ints l)) (hok : ∀ x ∈ l, ok x) (hn : l.length ≤ 100000000)
   (eg : ∀ args w, (callFunc g args).run Tryz.prog w = .ok (.enter g args) w) (hp : PredOk Tryz.prog g lb ok p w) :
   Calls Tryz.prog 103 #[v, .func (.func g) #[] lb] w fun e w' => e = .returned (.int .i64 (idxF p 0 l)) ∧ Below w.heap.size w w' := by
 have HSL := Lib.hid h
 obtain ⟨a, c, rfl, h1, h2, h3⟩ := h
 rw [ints_length] at *
 have HP := Lib.hid hp
 have HOK := Lib.hid hok
 clear hp hok
 go_enter Tryz.func103, Tryz.ntmps103
 go_wp2
 go_loopg [8] (l.length + 1) (fun gk i wr => ∃ k : Nat, i = .int .i64 k ∧ k ≤ l.length ∧ gk + k = l.length + 1 ∧ idxF p 0 l = idxF p k (l.drop k) ∧ Below w.heap.size w wr)
 case atStart => exact ⟨0, rfl, Nat.zero_le _, rfl, rfl, Below.refl _ _⟩
 case round =>
   obtain ⟨k, rfl, hk, hgk, hix, hB⟩ := hrel
   have HI := Lib.hid hix
   clear hix
   by_cases hlt : k < l.length
   · obtain ⟨b, off, rfl, hc⟩ := h3 (by intro e; rw [← ints_length, e] at hlt; simp at hlt)
     have hcell := below_cell hB (hc k _ (ints_get l k hlt))
     have hd := List.drop_eq_getElem_cons hlt
     have hokk := HOK.out l[k] (List.getElem_mem _)
     generalize l[k] = x at hcell hd hokk
     have HD := Lib.hid hd
     have hcall := HP.out x hokk wr hB
     clear hc h3 hd
     generalize hpx : p x = px at hcall
     have HPX := Lib.hid hpx
     have HC := Lib.hid hcall
     clear hpx hcall
     cases px with
     | true =>
       go_wp2_with fail
       refine HC.out.mono ?_
       rintro e w1 ⟨rfl, hb1⟩
       go_wp2
       go_ret
       exact ⟨ret_int (by rw [HI.out, HD.out]; simp [idxF, HPX.out]), hB.trans (hb1.mono hB.size)⟩
     | false =>
       go_wp2_with fail
       refine HC.out.mono ?_
       rintro e w1 ⟨rfl, hb1⟩
       go_wp2
       go_roundg (gk - 1)
       case measure => omega
       case rel => exact ⟨k + 1, by go_num, by omega, by omega, by rw [HI.out, HD.out]; simp [idxF, HPX.out], hB.trans (hb1.mono hB.size)⟩
   · have HK : Hid (k = l.length) := by show k = _; omega
     clear h3 hgk
     go_wp2
     go_ret
     exact ⟨ret_int (by rw [HI.out, HK.out]; simp [idxF]), hB⟩
theorem idxF_any (p : Int → Bool) : ∀ (l : List Int) (k : Nat), (0 ≤ idxF p k l) = (l.any p = true)
 | [], k => by simp [idxF]
 | x :: l, k => by
   by_cases h : p x = true
   · simp [idxF, h]
   · have := idxF_any p l (k + 1)
     simp only [idxF, h, List.any_cons, Bool.false_eq_true, if_false, Bool.false_or]
     simpa [h] using this
set_option maxHeartbeats 1000000 in
theorem ContainsFuncInt_any (l : List Int) (v : Value) (g : Nat) (lb : Array Value) (ok : Int → Prop) (p : Int → Bool) (w : World) (h : SlAt w v (ints l)) (hok : ∀ x ∈ l, ok x) (hn : l.length ≤ 100000000)
   (eg : ∀ args w, (callFunc g args).run Tryz.prog w = .ok (.enter g args) w) (hp : PredOk Tryz.prog g lb ok p w) :
   Calls Tryz.prog 70 #[v, .func (.func g) #[] lb] w fun e w' => e = .returned (.bool (l.any p)) ∧ Below w.heap.size w w' := by
 have hi := IndexFuncInt_any l v g lb ok p w h hok hn eg hp
 have hx := idxF_any p l 0
 generalize idxF p 0 l = x at hi hx
 have HI := Lib.hid hi
 have HX : Hid (decide (0 ≤ x) = l.any p) := by show decide _ = _; cases hl : l.any p <;> simp [hl] at hx ⊢ <;> omega
 clear hi hx hp hok h
 go_enter Tryz.func70, Tryz.ntmps70
 go_wp2_with (go_at_call 103; refine HI.out.mono ?_; rintro e w1 ⟨rfl, hb1⟩)
 go_ret
 exact ⟨by first | rfl | (rw [HX.out]; rfl), hb1⟩
def nats (l : List Nat) : List Int := l.map Int.ofNat
theorem nats_length (l : List Nat) : (nats l).length = l.length := by simp [nats]
theorem mem_nats {l : List Nat} {n : Nat} (h : ∀ i ∈ l, i < n) : ∀ x ∈ nats l, 0 ≤ x ∧ x < n := by
 intro x hx
 obtain ⟨i, hi, rfl⟩ := List.mem_map.1 hx
 have := h i hi
 simp; omega
theorem any_nats (l : List Nat) (p : Int → Bool) : (nats l).any p = l.any fun i => p i := by simp [nats, List.any_map]; rfl
set_option maxHeartbeats 1000000 in
theorem arranged1_any (vl ve vr vv v : Value) (n i Bl Bx : Nat) (l : List Nat) (rows : List (List Bool)) (w : World) (h : SlOf w vr (rows.map bools)) (hq : Sq n rows) (hi : i < n) (hl : ∀ j ∈ l, j < n) (hn : n ≤ 1000000) (hll : l.length ≤ 1000000)
   (hsl : SlAt w v (ints (nats l))) (hbl : w.cell? ⟨Bl, 0, none⟩ = some v) (x0 : w.cell? ⟨Bx, 0, none⟩ = some vl) (x1 : w.cell? ⟨Bx, 1, none⟩ = some ve) (x2 : w.cell? ⟨Bx, 2, none⟩ = some vr) (x3 : w.cell? ⟨Bx, 3, none⟩ = some vv) :
   Calls Tryz.prog 134 #[.int .i64 i, .pointer (some ⟨Bl, 0, none⟩), .pointer (some ⟨Bx, 0, none⟩)] w fun e w' => e = .returned (.bool (!l.any fun j => bef rows j i)) ∧ Below w.heap.size w w' := by
 have hp : ∀ o : Obj, o = .cells #[.int .i64 i] 3 → PredOk Tryz.prog 135 #[.pointer (some ⟨Bx, 0, none⟩), .pointer (some ⟨w.heap.size, 0, none⟩)] (fun x => 0 ≤ x ∧ x < n) (fun x => bef rows x.toNat i) (w.alloc o) := by
   rintro o rfl x ⟨hx0, hxn⟩ W hW
   have hbw : Below w.heap.size w W := ((Below.refl _ _).alloc (Nat.le_refl _) _).trans (hW.mono (by simp))
   have := arranged11_any vl ve vr vv n i x.toNat w.heap.size Bx rows W (h.below hbw) hq hi (by omega) hn (below_cell hW (by simp [go_sem])) (below_cell hbw x0) (below_cell hbw x1) (below_cell hbw x2) (below_cell hbw x3)
   rw [Int.toNat_of_nonneg hx0] at this
   exact this
 have hc := ContainsFuncInt_any (nats l) v 135 _ _ _ _ (hsl.below ((Below.refl _ _).alloc (Nat.le_refl _) (.cells #[.int .i64 i] 3))) (mem_nats hl) (by rw [nats_length]; omega) (enters_of Tryz.func135 (by kernel_rfl) rfl) (hp _ rfl)
 rw [any_nats] at hc
 have HC := Lib.hid hc
 obtain ⟨a, c, rfl, _⟩ := hsl
 have hltb := cell_lt hbl
 clear hc hp h hl hq x0 x1 x2 x3
 go_enter Tryz.func134, Tryz.ntmps134
 go_wp2_with fail
 refine HC.out.mono ?_
 rintro e w1 ⟨rfl, hb1⟩
 go_wp2
 go_ret
 exact ⟨rfl, ((Below.refl _ _).alloc (Nat.le_refl _) _).trans (hb1.mono (by simp))⟩
def gapN (rows : List (List Bool)) (l : List Nat) (i : Nat) : Nat := (l.filter fun j => bef rows j i).length
set_option maxHeartbeats 1000000 in
theorem gap_any (vl ve vr vv v : Value) (n i : Nat) (l : List Nat) (rows : List (List Bool)) (w : World) (h : SlOf w vr (rows.map bools)) (hq : Sq n rows) (hi : i < n) (hl : ∀ j ∈ l, j < n) (hn : n ≤ 1000000) (hll : l.length ≤ 1000000)
   (hsl : SlAt w v (ints (nats l))) (hvl : ∃ a c m, vl = .slice a m c) (hve : ∃ a c m, ve = .slice a m c) (hvv : ∃ a c m, vv = .slice a m c) :
   Calls Tryz.prog 83 #[.agg #[vl, ve, vr, vv], v, .int .i64 i] w fun e w' => e = .returned (.int .i64 (gapN rows l i)) ∧ Below w.heap.size w w' := by
 obtain ⟨al, cl, ml, rfl⟩ := hvl
 obtain ⟨ae, ce, me, rfl⟩ := hve
 obtain ⟨av, cv, mv, rfl⟩ := hvv
 obtain ⟨br, or, cr, rfl, _⟩ := h.form hq (by omega)
 obtain ⟨a, c, rfl, k1, k2, k3⟩ := hsl
 rw [ints_length, nats_length] at *
 have HS := Lib.hid h
 have HL := Lib.hid hl
 clear h hl
 go_enter Tryz.func83, Tryz.ntmps83
 go_wp2
 go_loopg [7, 12] (l.length + 1) (fun gk t i' wr => ∃ k : Nat, i' = .int .i64 k ∧ t = .int .i64 (gapN rows (l.take k) i) ∧ k ≤ l.length ∧ gk + k = l.length + 1 ∧ Below (w.heap.size + 1) (w.alloc (.cells #[.slice al ml cl, .slice ae me ce, .slice (some ⟨br, or, none⟩) n cr, .slice av mv cv] 78)) wr)
 case atStart => exact ⟨0, rfl, rfl, Nat.zero_le _, rfl, Below.refl _ _⟩
 case round =>
   obtain ⟨k, rfl, rfl, hk, hgk, hB⟩ := hrel
   have hB0 : Below w.heap.size w wr := ((Below.refl _ _).alloc (Nat.le_refl _) _).trans (hB.mono (by omega))
   have hle : gapN rows (l.take k) i ≤ 1000000 := by
     have := List.length_filter_le (fun j => bef rows j i) (l.take k)
     simp only [List.length_take] at this
     unfold gapN; omega
   by_cases hlt : k < l.length
   · obtain ⟨b, off, rfl, hc⟩ := k3 (by intro e; have := congrArg List.length e; simp [ints, nats] at this; subst this; simp at hlt)
     have hcell := below_cell hB0 (hc k (.int .i64 (l[k] : Nat)) (by simp [ints, nats, hlt]))
     have hkn := HL.out l[k] (List.getElem_mem _)
     have htk : gapN rows (l.take (k + 1)) i = gapN rows (l.take k) i + if bef rows l[k] i then 1 else 0 := by
       unfold gapN
       rw [List.take_succ_eq_append_getElem hlt, List.filter_append]
       by_cases hb : bef rows l[k] i = true <;> simp [hb]
     generalize l[k] = j at hcell hkn htk
     have hbf := before_any (.slice al ml cl) (.slice ae me ce) (.slice (some ⟨br, or, none⟩) n cr) (.slice av mv cv) n j i rows wr (HS.out.below hB0) hq hkn hi hn
     generalize bef rows j i = x at hbf htk
     have x0 : wr.cell? ⟨w.heap.size, 0, none⟩ = some (.slice al ml cl) := (hB.cell (by simp)).trans (by simp [go_sem])
     have x1 : wr.cell? ⟨w.heap.size, 1, none⟩ = some (.slice ae me ce) := (hB.cell (by simp)).trans (by simp [go_sem])
     have x2 : wr.cell? ⟨w.heap.size, 2, none⟩ = some (.slice (some ⟨br, or, none⟩) n cr) := (hB.cell (by simp)).trans (by simp [go_sem])
     have x3 : wr.cell? ⟨w.heap.size, 3, none⟩ = some (.slice av mv cv) := (hB.cell (by simp)).trans (by simp [go_sem])
     have HT := Lib.hid htk
     have HBF := Lib.hid hbf
     generalize gapN rows (l.take k) i = m at hle HT
     clear htk hbf hc k3
     cases x with
     | true =>
       go_wp2_with fail
       refine HBF.out.mono ?_
       rintro e w1 ⟨rfl, hb1⟩
       clear x0 x1 x2 x3
       go_wp2
       go_roundg (gk - 1)
       case measure => omega
       case rel => exact ⟨k + 1, by go_num, by rw [HT.out]; simp, by omega, by omega, hB.trans (hb1.mono (by have := hB.size; simp at this; omega))⟩
     | false =>
       go_wp2_with fail
       refine HBF.out.mono ?_
       rintro e w1 ⟨rfl, hb1⟩
       clear x0 x1 x2 x3
       go_wp2
       go_roundg (gk - 1)
       case measure => omega
       case rel => exact ⟨k + 1, by go_num, by rw [HT.out]; simp, by omega, by omega, hB.trans (hb1.mono (by have := hB.size; simp at this; omega))⟩
   · have HK : Hid (l.take k = l) := by show l.take k = l; rw [List.take_of_length_le (by omega)]
     clear k3 hgk
     go_wp2
     go_ret
     exact ⟨ret_int (by rw [HK.out]), hB0⟩
end Go.Proofs.Lg
