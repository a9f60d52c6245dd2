/-
  Part C4 of this claim's proof. Joined by merge.py from the texts of wip/tpl.
-/
import Derived.Test.YtjlnniaknfpgiaaGreatDoorC3
import Derived.Test.YtjlnniaknfpgiaaGreatDoorGC
set_option linter.unusedVariables false
set_option linter.unusedSimpArgs false
set_option linter.unnecessarySimpa false
namespace Go.Proofs.Lg
open Go Go.RowKit

theorem info_int : (Tryz.prog.info? 3).map (fun i => (i.zero, i.size, i.bytes)) = some (some (.int .i64 0), 1, 8) := by kernel_rfl
theorem info_ints : (Tryz.prog.info? 37).map (fun i => (i.zero, i.size, i.bytes)) = some (some (.slice none 0 0), 1, 24) := by kernel_rfl
theorem info_bool : (Tryz.prog.info? 4).map (fun i => (i.zero, i.size, i.bytes)) = some (some (.bool false), 1, 1) := by kernel_rfl

theorem _root_.Go.madeCells_one (z : Value) (n : Nat) : Go.madeCells #[z] n = (List.replicate n z).toArray := by
  apply Array.ext
  · simp [Go.madeCells]
  · intro i h1 h2
    simp [Go.madeCells, Nat.mod_one]

def folStep (rows : List (List Int)) (e : Int × Int) : List (List Int) :=
  if 0 ≤ e.1 ∧ 0 ≤ e.2 then rows.modify e.1.toNat (· ++ [e.2]) else rows
/-- For each line the lines to which an edge leads from it. -/
def Gr.followers (g : Gr) : List (List Int) := g.edges.foldl folStep (List.replicate g.lines.length [])

theorem folStep_length (rows : List (List Int)) (e : Int × Int) : (folStep rows e).length = rows.length := by
  unfold folStep; split <;> simp
theorem fol_length (l : List (Int × Int)) : ∀ rows : List (List Int), (l.foldl folStep rows).length = rows.length := by
  induction l with
  | nil => intro rows; rfl
  | cons e l ih => intro rows; simp [ih, folStep_length]
theorem fol_row_length (l : List (Int × Int)) : ∀ (rows : List (List Int)) (m : Nat), (∀ r ∈ rows, r.length ≤ m) → ∀ r ∈ l.foldl folStep rows, r.length ≤ m + l.length := by
  induction l with
  | nil => intro rows m h; simpa using h
  | cons e l ih =>
    intro rows m h r hr
    have := ih (folStep rows e) (m + 1) (fun q hq => ?_) r hr
    · simp; omega
    · unfold folStep at hq
      split at hq
      · obtain ⟨i, hi, rfl⟩ := List.mem_iff_getElem.1 hq
        rw [List.getElem_modify]
        simp only [List.length_modify] at hi
        have := h rows[i] (List.getElem_mem _)
        split <;> simp <;> omega
      · have := h q hq; omega

set_option maxHeartbeats 4000000 in
set_option maxRecDepth 100000 in
/-- linegraph.followers: the rows lie in memory of the call's own; what was there stays. -/
theorem followers_any (vl ve : Value) (g : Gr) (w : World) (hg : GrAt w vl ve g) (hv : ∀ e ∈ g.edges, e.1 < g.lines.length) :
    Calls Tryz.prog 29 #[.agg #[vl, ve]] w fun e w' => ∃ v, e = .returned v ∧ SlOf w' v (g.followers.map ints) ∧ Below w.heap.size w w' := by
  obtain ⟨⟨al, cl, rfl, hl1, hl2, hl3⟩, ⟨ae, ce, rfl, he1, he2, he3⟩, hokl, hoke, hfl, hfe⟩ := hg
  simp only [List.length_map] at *
  clear hl3 hokl hoke
  have hmk := run_make_row' (P := Tryz.prog) 35 37 (.slice none 0 0) 24 Tryz.underlying35 info_ints rfl .i64 .i64 g.lines.length (by omega) (by omega)
  obtain ⟨C0, hC0⟩ : ∃ C0, C0 = Go.madeCells #[Value.slice none 0 0] g.lines.length := ⟨_, rfl⟩
  rw [← hC0] at hmk
  have HC0 := Lib.hid hC0
  clear hC0
  go_enter Tryz.func29, Tryz.ntmps29
  go_wp2
  have hbe : w.heap.size + 1 = (w.alloc (.cells #[.slice al g.lines.length cl, .slice ae g.edges.length ce] 25)).heap.size := by simp
  have HST : Hid (RowsOwn ((w.alloc (.cells #[.slice al g.lines.length cl, .slice ae g.edges.length ce] 25)).alloc (.cells C0 37)) (w.heap.size + 1) (w.heap.size + 1) 37 3 ((List.replicate g.lines.length []).map ints)) := by
    show RowsOwn _ _ _ _ _ _
    have := RowsOwn.made (w.alloc (.cells #[.slice al g.lines.length cl, .slice ae g.edges.length ce] 25)) (w.heap.size + 1) 37 3 g.lines.length C0 (by rw [HC0.out, Go.madeCells_one]) (by simp)
    rw [← hbe] at this
    simpa [ints] using this
  clear hbe hmk
  go_loopw [13] (fun i wr => ∃ k : Nat, k ≤ g.edges.length ∧ i = .int .i64 k ∧ RowsOwn wr (w.heap.size + 1) (w.heap.size + 1) 37 3 (((g.edges.take k).foldl folStep (List.replicate g.lines.length [])).map ints) ∧ Below (w.heap.size + 1) (w.alloc (.cells #[.slice al g.lines.length cl, .slice ae g.edges.length ce] 25)) wr) (fun i _ => g.edges.length - (intOf i).toNat)
  case atStart => exact ⟨0, Nat.zero_le _, rfl, HST.out, (Below.refl _ _).alloc (by simp) _⟩
  case round =>
    obtain ⟨k, hk, rfl, hR, hB⟩ := hrel
    clear HST
    have hB0 : Below w.heap.size w wr := ((Below.refl _ _).alloc (Nat.le_refl _) _).trans (hB.mono (by omega))
    by_cases hlt : k < g.edges.length
    · obtain ⟨b, off, rfl, hc⟩ := he3 (by intro e; rw [List.map_eq_nil_iff] at e; simp [e] at hlt)
      obtain ⟨r1, r2⟩ := edge_range (e := g.edges[k]) (rangeAt_below hB0 (hc k _ (by rw [List.getElem?_map, List.getElem?_eq_getElem hlt]; rfl)))
      have hvk := hv g.edges[k] (List.getElem_mem _)
      have htk : (g.edges.take (k + 1)).foldl folStep (List.replicate g.lines.length []) = folStep ((g.edges.take k).foldl folStep (List.replicate g.lines.length [])) g.edges[k] := by
        rw [List.take_succ_eq_append_getElem hlt, List.foldl_append]; rfl
      have hlen := fol_length (g.edges.take k) (List.replicate g.lines.length [])
      have hrow := fol_row_length (g.edges.take k) (List.replicate g.lines.length []) 0 (by simp)
      have hlk : (g.edges.take k).length ≤ 1000000 := by simp; omega
      generalize (g.edges.take k).foldl folStep (List.replicate g.lines.length []) = rows at hR htk hlen hrow
      generalize g.edges[k] = e at r1 r2 hvk htk
      obtain ⟨e1, e2⟩ := e
      dsimp only at r1 r2 hvk
      have HT := Lib.hid htk
      have HR := Lib.hid hR
      have HL := Lib.hid hlen
      have HW := Lib.hid hrow
      clear htk hR hc he3 hv hlen hrow HC0
      by_cases hp1 : 0 ≤ e1
      · by_cases hp2 : 0 ≤ e2
        · have hd1 : decide (0 ≤ e1) = true := by simp [hp1]
          have hd2 : decide (0 ≤ e2) = true := by simp [hp2]
          have hj : e1.toNat < rows.length := by have := HL.out; simp at this; omega
          have hrj : (rows.map ints)[e1.toNat]? = some (ints rows[e1.toNat]) := by rw [List.getElem?_map, List.getElem?_eq_getElem hj]; rfl
          have hfs : (folStep rows (e1, e2)).map ints = (rows.map ints).set e1.toNat (ints (rows[e1.toNat] ++ [e2])) := by
            simp only [folStep, hp1, hp2, and_self, if_true]
            apply List.ext_getElem
            · simp
            · intro i h1 h2
              simp only [List.getElem_map, List.getElem_modify, List.getElem_set]
              split <;> simp_all
          have hrl := HW.out rows[e1.toNat] (List.getElem_mem _)
          generalize rows[e1.toNat] = r at hrj hfs hrl
          have HF := Lib.hid hfs
          obtain ⟨u, hu1, hu2, hu3, hu4⟩ := HR.out.row hrj
          have hub : ∀ k, u.ownBlock = some k → w.heap.size + 1 ≤ k ∧ k < wr.heap.size := fun k e => hu3.lt k e
          rw [ints_length] at hu3
          have HJ := Lib.hid hrj
          obtain ⟨i0, hi, hz0, hz1, hz2⟩ := info_parts info_int
          have hOlt : w.heap.size + 1 < wr.heap.size := cell_lt hu1
          clear hrj hfs
          have hb1 : e1 < g.lines.length := hvk
          have HB1 : Hid (∀ o : Obj, Below wr.heap.size wr ((wr.alloc (.cells #[.int .i64 e1, .int .i64 e2] 64)).alloc o).drew) := fun o => (((Below.refl _ _).alloc (Nat.le_refl _) _).alloc (by simp) _).drew
          have hu1' := alloc_cell hu1 (.cells #[.int .i64 e1, .int .i64 e2] 64)
          go_wp2
          obtain ⟨C, hC⟩ : ∃ C : World → Prop, C = fun w' => w'.cell? ⟨wr.heap.size, 0, none⟩ = some (.int .i64 e1) ∧ w'.cell? ⟨wr.heap.size, 1, none⟩ = some (.int .i64 e2) ∧ w'.cell? ⟨w.heap.size + 1, e1.toNat, none⟩ = some u := ⟨_, rfl⟩
          have hC0 : C (wr.alloc (.cells #[.int .i64 e1, .int .i64 e2] 64)).drew := by rw [hC]; exact ⟨by simp [go_sem], by simp [go_sem], hu1'⟩
          have hne : Nonempty (Cls C) := ⟨⟨_, hC0⟩⟩
          have c1 : ∀ p : Cls C, p.w.cell? ⟨wr.heap.size, 0, none⟩ = some (.int .i64 e1) := by subst hC; exact fun p => p.h.1
          have c2 : ∀ p : Cls C, p.w.cell? ⟨wr.heap.size, 1, none⟩ = some (.int .i64 e2) := by subst hC; exact fun p => p.h.2.1
          have c3 : ∀ p : Cls C, p.w.cell? ⟨w.heap.size + 1, e1.toNat, none⟩ = some u := by subst hC; exact fun p => p.h.2.2
          have HC := Lib.hid hC
          clear hC
          refine wp_region_ord C 13 [(0, true), (1, true), (2, true), (3, true), (4, true), (5, true), (6, true), (7, true), (8, true), (9, true), (10, false), (11, false), (12, true), (13, false)] (by kernel_rfl) (by kernel_rfl) hC0 ?_
          iterate 10 (refine wpOrd_pure rfl (fun _ _ _ _ h => h) rfl (fun K hK => ?_); go_simp; refine hK _ ?_; clear hK K)
          refine wpOrd_eff rfl rfl (fun K hK => ?_)
          go_simp
          refine hK _ _ (.inr ?_) ?_
          · rw [HC.out]
            exact ⟨alloc_cell (by simp [go_sem]) _, alloc_cell (by simp [go_sem]) _, below_cell (HB1.out _) hu1⟩
          clear hK K
          refine wpOrd_eff rfl rfl (fun K hK => ?_)
          refine wp_append_lies _ _ _ _ (by rfl) (w.heap.size + 1) 3 i0 (.int .i64 0) 1 8 Tryz.underlying37 hi hz0 hz1 hz2 rfl (by decide) u r.length (ints r) (by rfl) (ownsRow_below hu3 (HB1.out _)) ⟨wr.heap.size + 1, 0, none⟩ 1 1 [.int .i64 e2] (by rfl) rfl ?hnews (by simp [Value.oneCell']) (by omega) (by unfold maxLen; omega) (by omega) (by simp; omega) (wr.heap.size + 2) (by simp) ?_
          case hnews => intro j v hj; cases j with | zero => (simp at hj; subst hj; simp [go_sem]) | succ j => simp at hj
          intro gg cap w1 hown hgrow hat hlt1
          refine hK _ _ (.inr ?_) ?_
          · rw [HC.out]
            refine ⟨(hgrow.cell_far _ (by simp; omega) (fun e => by have := hub _ e.symm; simp at this)).trans (alloc_cell (by simp [go_sem]) _), (hgrow.cell_far _ (by simp; omega) (fun e => by have := hub _ e.symm; simp at this)).trans (alloc_cell (by simp [go_sem]) _), (hgrow.cell_far _ (by simp; omega) (fun e => hu4 e.symm)).trans (below_cell (HB1.out _) hu1)⟩
          clear hK K
          simp only [Act.put, List.setIfInBounds_toArray]
          refine wpOrd_pure rfl (fun _ _ _ _ h => h) rfl (fun K hK => ?_); go_simp; refine hK _ ?_; clear hK K
          refine wpOrd_eff rfl rfl (fun K hK => ?_)
          have s1 : w1.cell? ⟨w.heap.size + 1, e1.toNat, none⟩ = some u := (hgrow.cell_far _ (by simp; omega) (fun e => hu4 e.symm)).trans (below_cell (HB1.out _) hu1)
          have s2 : w1.frozen? ⟨w.heap.size + 1, e1.toNat, none⟩ = false := (hgrow.frozen_far _ (by simp; omega) (fun e => hu4 e.symm)).trans (((HB1.out _).frozen (cell_lt hu1)).trans hu2)
          go_simp
          refine hK _ _ (.inl rfl) ?_
          clear hK K
          refine wpOrd_nil ?_
          go_wp2
          go_roundw
          case rel =>
            refine ⟨k + 1, by omega, by go_num, ?_, ?_⟩
            · rw [HT.out, HF.out]
              exact RowsOwn.step (HR.out.below (HB1.out _)) HJ.out (below_cell (HB1.out _) hu1) (by simp [ints_length]) (by simpa [ints] using hown) hgrow (by simpa using hat)
            · refine Below.setCell ?_ (by simp) _
              refine Below.grown (hB.trans ((HB1.out _).mono (by omega))) hgrow (by simp; omega) (fun j hj => (hub j hj).1)
          case measure => simp [intOf]; omega
        · have hd1 : decide (0 ≤ e1) = true := by simp [hp1]
          have hd2 : decide (0 ≤ e2) = false := by simp; omega
          go_wp2
          go_roundw
          case rel =>
            refine ⟨k + 1, by omega, by go_num, ?_, hB.alloc (by have := hB.size; simp at this; omega) _⟩
            rw [HT.out]
            have : folStep rows (e1, e2) = rows := by simp [folStep]; omega
            rw [this]
            exact HR.out.below ((Below.refl _ _).alloc (Nat.le_refl _) _)
          case measure => simp [intOf]; omega
      · have hd1 : decide (0 ≤ e1) = false := by simp; omega
        go_wp2
        go_roundw
        case rel =>
          refine ⟨k + 1, by omega, by go_num, ?_, hB.alloc (by have := hB.size; simp at this; omega) _⟩
          rw [HT.out]
          have : folStep rows (e1, e2) = rows := by simp [folStep]; omega
          rw [this]
          exact HR.out.below ((Below.refl _ _).alloc (Nat.le_refl _) _)
        case measure => simp [intOf]; omega
    · have HK := Lib.hid (show k = g.edges.length by omega)
      have HR := Lib.hid hR
      clear he3 hv hR
      go_wp2
      go_ret
      refine ⟨_, rfl, ?_, hB0⟩
      have hR := HR.out
      rw [HK.out, List.take_length] at hR
      exact hR.slOf _ (by simp [fol_length]) (by omega)

set_option maxHeartbeats 1000000 in
theorem CloneInts_any (l : List Int) (v : Value) (w : World) (h : SlAt w v (ints l)) (hn : l.length ≤ 10000000) :
    Calls Tryz.prog 55 #[v] w fun e w' => ∃ v', e = .returned v' ∧ w'.ownsRow w.heap.size 3 1 v' l.length (ints l) ∧ Below w.heap.size w w' := by
  have hsrc := h.src
  obtain ⟨a, c, rfl, h1, h2, h3⟩ := h
  rw [ints_length] at *
  cases a with
  | none =>
    have hl : l = [] := by
      cases l with
      | nil => rfl
      | cons y ys => obtain ⟨b, off, h, _⟩ := h3 (by simp [ints]); cases h
    subst hl
    clear h3 hsrc
    have heq : ∀ w, (binOp .eql 37 (.slice none 0 c) (.slice none 0 0)).run Tryz.prog w = .ok (.bool true) w := fun w => by rw [Lib.run_eql_slice_nil (h := Tryz.underlying37)]; rfl
    go_enter Tryz.func55, Tryz.ntmps55
    go_wp2
    go_ret
    exact ⟨_, rfl, World.ownsRow_nil _ _ _ _, Below.refl _ _⟩
  | some ad =>
    have heq : ∀ w, (binOp .eql 37 (.slice (some ad) l.length c) (.slice none 0 0)).run Tryz.prog w = .ok (.bool false) w := fun w => by rw [Lib.run_eql_slice_nil (h := Tryz.underlying37)]; rfl
    have H3 := Lib.hid h3
    have HS := Lib.hid hsrc
    clear h3 hsrc
    have hown := World.ownsRow_made (e := 3) (size := 1) (base := w.heap.size) w #[] 0 (Nat.le_refl _) (by unfold maxLen; omega) rfl
    have HO := Lib.hid hown
    clear hown
    go_enter Tryz.func55, Tryz.ntmps55
    go_wp2_with (at_builtin; refine wpList_app rfl _ _ _ rfl w.heap.size 3 (.int .i64 0) 1 8 Tryz.underlying37 info_int rfl (by decide) _ 0 [] rfl HO.out _ l.length (ints l) rfl (HS.out.below ((Below.refl _ _).alloc (Nat.le_refl _) _)) (oneCell_ints l) (by omega) (by omega) (by simp) ?_; intro a' c' w1 hown1 hgrow1 hat1)
    go_ret
    refine ⟨_, rfl, by simpa using hown1, ?_⟩
    exact Below.grown ((Below.refl _ _).alloc (Nat.le_refl _) _) hgrow1 (by simp) (fun k hk => Nat.le_of_eq (Option.some.inj hk))

/-- linegraph.from as the code goes: what is still to be looked at is taken from its end. -/
def fromF (next : List (List Int)) : Nat → List Int → List Bool → List Bool
  | 0, _, out => out
  | f + 1, todo, out =>
    match todo.getLast? with
    | none => out
    | some k => if out.getD k.toNat false then fromF next f todo.dropLast out else fromF next f (todo.dropLast ++ next.getD k.toNat []) (out.set k.toNat true)

/-- How much is still to be done at most. -/
def pot : List (List Int) → List Bool → Nat
  | r :: rows, b :: out => (if b then 0 else r.length + 1) + pot rows out
  | _, _ => 0

theorem pot_set : ∀ (rows : List (List Int)) (out : List Bool) (k : Nat) (r : List Int), rows[k]? = some r → out[k]? = some false → pot rows (out.set k true) + (r.length + 1) = pot rows out
  | q :: rows, b :: out, 0, r, h1, h2 => by
    simp at h1 h2
    subst h1; subst h2
    simp [pot]; omega
  | q :: rows, b :: out, k + 1, r, h1, h2 => by
    have := pot_set rows out k r (by simpa using h1) (by simpa using h2)
    simp only [List.set_cons_succ, pot]
    omega
  | [], _, k, r, h1, _ => by simp at h1
  | _ :: _, [], k, r, _, h2 => by simp at h2

def bools (l : List Bool) : List Value := l.map Value.bool

/-- What linegraph.from returns. -/
def fromRow (next : List (List Int)) (i : Nat) : List Bool :=
  fromF next (pot next (List.replicate next.length false) + (next.getD i []).length + 1) (next.getD i []) (List.replicate next.length false)

set_option maxHeartbeats 4000000 in
set_option maxRecDepth 100000 in
theorem from_any (next : List (List Int)) (v : Value) (i : Nat) (w : World) (h : SlOf w v (next.map ints)) (hi : i < next.length) (hn : next.length ≤ 1000000) (hpot : pot next (List.replicate next.length false) + (next.getD i []).length ≤ 5000000)
    (hv : ∀ r ∈ next, ∀ x ∈ r, 0 ≤ x ∧ x < next.length) :
    Calls Tryz.prog 30 #[v, .int .i64 i] w fun e w' => ∃ v', e = .returned v' ∧ SlAt w' v' (bools (fromRow next i)) ∧ (∀ k, v'.ownBlock = some k → w.heap.size ≤ k) ∧ Below w.heap.size w w' := by
  obtain ⟨vs, ⟨a, c, rfl, h1, h2, h3⟩, hlen, hrows⟩ := h
  simp only [List.length_map] at hlen
  obtain ⟨b, off, rfl, hc⟩ := h3 (by intro e; subst e; simp at hlen; omega)
  clear h3
  have hvi : i < vs.length := by omega
  rw [hlen] at h1 ⊢
  have hmk := run_make_row' (P := Tryz.prog) 38 4 (.bool false) 1 Tryz.underlying38 info_bool rfl .i64 .i64 next.length (by omega) (by omega)
  obtain ⟨C0, hC0⟩ : ∃ C0, C0 = Go.madeCells #[Value.bool false] next.length := ⟨_, rfl⟩
  rw [← hC0] at hmk
  have HC0 := Lib.hid hC0
  have HLEN := Lib.hid hlen
  have HC := Lib.hid hc
  have HR := Lib.hid hrows
  have ci := hc i vs[i] (List.getElem?_eq_getElem hvi)
  have hri := hrows i vs[i] (ints next[i]) (List.getElem?_eq_getElem hvi) (by rw [List.getElem?_map, List.getElem?_eq_getElem hi]; rfl)
  generalize vs[i] = vi at ci hri
  have HRI := Lib.hid hri
  have hb := cell_lt ci
  clear hC0 hlen hc hrows hri
  go_enter Tryz.func30, Tryz.ntmps30
  go_wp2_with fail
  refine (CloneInts_any next[i] vi _ (HRI.out.below ((Below.refl _ _).alloc (Nat.le_refl _) _)) ?hsz).mono ?_
  case hsz => rw [show next.getD i [] = next[i] by simp [hi]] at hpot; omega
  rintro e w1 ⟨v1, rfl, ho1, hb1⟩
  obtain ⟨a1, c1, rfl⟩ := ownsRow_form ho1
  have hh1 : w1.heap[w.heap.size]? = some (.cells C0 4 (0, 0)) := heap_below hb1 (heap_alloc_new w _)
  have hbw1 : Below w.heap.size w w1 := ((Below.refl _ _).alloc (Nat.le_refl _) _).trans (hb1.mono (by simp))
  simp only [World.size_alloc] at ho1
  have HO := Lib.hid ho1
  have HH := Lib.hid hh1
  clear ho1 hh1 hb1 hmk
  go_wp2
  go_loopg [6] (pot next (List.replicate next.length false) + (next.getD i []).length + 1) (fun gk t wr => ∃ (todo : List Int) (out : List Bool) (a : Option Addr) (c : Nat), t = .slice a todo.length c ∧ wr.ownsRow (w.heap.size + 1) 3 1 (.slice a todo.length c) todo.length (ints todo) ∧
    wr.heap[w.heap.size]? = some (.cells (bools out).toArray 4 (0, 0)) ∧ out.length = next.length ∧ (∀ x ∈ todo, 0 ≤ x ∧ x < next.length) ∧ pot next out + todo.length + 1 ≤ gk ∧ gk ≤ 5000001 ∧ fromRow next i = fromF next gk todo out ∧ Below w.heap.size w wr)
  case atStart =>
    refine ⟨next[i], List.replicate next.length false, a1, c1, rfl, HO.out, ?_, by simp, hv _ (List.getElem_mem _), ?_, by omega, by unfold fromRow; rw [show next.getD i [] = next[i] by simp [hi]], hbw1⟩
    · rw [HH.out, HC0.out, Go.madeCells_one]; simp [bools]
    · rw [show next.getD i [] = next[i] by simp [hi]]; omega
  case round =>
    obtain ⟨todo, out, a, c3, rfl, ho, hh, hol, hval, hpt, hgk, hfr, hB⟩ := hrel
    have HFR := Lib.hid hfr
    have HHH := Lib.hid hh
    have HOL := Lib.hid hol
    have HVAL := Lib.hid hval
    have HOO := Lib.hid ho
    have HV := Lib.hid hv
    clear hfr hh hol hval hv HO HH ho
    rcases List.eq_nil_or_concat todo with rfl | ⟨l, x, hx⟩
    · obtain ⟨f, rfl⟩ : ∃ f, gk = f + 1 := ⟨gk - 1, by omega⟩
      clear hpt hpot
      simp only [List.length_nil]
      go_wp2
      go_ret
      refine ⟨.slice (some ⟨w.heap.size, 0, none⟩) next.length next.length, rfl, ?_, fun k hk => Nat.le_of_eq (Option.some.inj hk), hB⟩
      rw [HFR.out]
      refine SlAt.mk (by simp [bools, fromF, HOL.out]) (Nat.le_refl _) (by omega) fun j u hu => ?_
      rw [Nat.zero_add, cell_of_heap HHH.out]
      simpa [fromF] using hu
    · rw [List.concat_eq_append] at hx
      subst hx
      have hxv := HVAL.out x (by simp)
      obtain ⟨g, cap, hv1, hbg, hglt⟩ := HOO.out.form (by simp)
      obtain ⟨rfl, rfl⟩ : a = some ⟨g, 0, none⟩ ∧ c3 = cap := by simpa using hv1
      have hcx : wr.cell? ⟨g, l.length, none⟩ = some (.int .i64 x) := by
        have := HOO.out.cells (g := g) rfl l.length (.int .i64 x) (by simp [ints])
        rwa [Addr.add_mid, Nat.zero_add] at this
      have hpop : wr.ownsRow (w.heap.size + 1) 3 1 (.slice (some ⟨g, 0, none⟩) l.length c3) l.length (ints l) := by
        have := HOO.out
        simp only [List.length_append, List.length_cons, List.length_nil, ints, List.map_append, List.map_cons, List.map_nil] at this
        exact ownsRow_pop (by simp [ints]) this
      have HPOP := Lib.hid hpop
      have hcap3 : l.length + 1 ≤ c3 := by have := ownsRow_cap HOO.out; simpa using this
      clear hpop hv1
      simp only [List.length_append, List.length_cons, List.length_nil] at hpt ⊢
      obtain ⟨f, rfl⟩ : ∃ f, gk = f + 1 := ⟨gk - 1, by omega⟩
      have hxl : x.toNat < next.length := by omega
      have hxb : x.toNat < out.length := by rw [HOL.out]; omega
      have hstep : fromF next (f + 1) (l ++ [x]) out = if out.getD x.toNat false then fromF next f l out else fromF next f (l ++ next.getD x.toNat []) (out.set x.toNat true) := by
        simp [fromF]
      have hgetD : out.getD x.toNat false = out[x.toNat] := by simp [hxb]
      have hco : wr.cell? ⟨w.heap.size, x.toNat, none⟩ = some (.bool out[x.toNat]) := by rw [cell_of_heap HHH.out]; simp [bools, hxb]
      have hset : out[x.toNat] = false → pot next (out.set x.toNat true) + ((next.getD x.toNat []).length + 1) = pot next out := fun h => by
        rw [show next.getD x.toNat [] = next[x.toNat]'hxl by simp; rw [List.getElem?_eq_getElem (by omega)]; rfl]
        exact pot_set next out x.toNat _ (List.getElem?_eq_getElem (by omega)) (by rw [List.getElem?_eq_getElem hxb, h])
      rw [hgetD] at hstep
      generalize out[x.toNat] = bx at hco hset hstep
      have HST := Lib.hid hstep
      have HSET := Lib.hid hset
      obtain ⟨hx0, hxn⟩ := hxv
      have hwl : w.heap.size < wr.heap.size := cell_lt hco
      clear hset hgetD hstep
      cases bx with
      | true =>
        go_wp2
        go_roundg f
        case measure => omega
        case rel =>
          exact ⟨l, out, _, _, rfl, HPOP.out, HHH.out, HOL.out, fun y hy => HVAL.out y (by simp [hy]), by omega, by omega, by rw [HFR.out, HST.out]; simp, hB⟩
      | false =>
        have hvx : x.toNat < vs.length := by have := HLEN.out; omega
        have cx := HC.out x.toNat vs[x.toNat] (List.getElem?_eq_getElem hvx)
        have hrx := HR.out x.toNat vs[x.toNat] (ints (next[x.toNat]'hxl)) (List.getElem?_eq_getElem hvx) (by rw [List.getElem?_map, List.getElem?_eq_getElem (by omega)]; rfl)
        generalize vs[x.toNat] = vx at cx hrx
        have cx1 := below_cell hB cx
        have hbx := cell_lt cx
        have hbne : b ≠ w.heap.size := by omega
        have hfz : wr.frozen? ⟨w.heap.size, x.toNat, none⟩ = false := frozen_of_heap HHH.out
        have HRX : Hid (SrcAt (wr.setCell ⟨w.heap.size, x.toNat, none⟩ (.bool true)) vx (ints (next[x.toNat]'hxl)).length 1 (ints (next[x.toNat]'hxl))) := hrx.src.below (hB.setCell (Nat.le_refl _) _)
        clear hrx cx
        have hrl : (next[x.toNat]'hxl).length ≤ 5000000 := by
          have h1 := HSET.out (by simp)
          rw [show next.getD x.toNat [] = next[x.toNat]'hxl by simp; rw [List.getElem?_eq_getElem (by omega)]; rfl] at h1
          omega
        have HSL : Hid (SrcAt (wr.setCell ⟨w.heap.size, x.toNat, none⟩ (.bool true)) vx (next[x.toNat]'hxl).length 1 (ints (next[x.toNat]'hxl))) := by
          have h1 := HRX.out
          rw [ints_length] at h1
          exact h1
        go_wp2_with (at_builtin; refine wpList_app rfl _ _ _ rfl (w.heap.size + 1) 3 (.int .i64 0) 1 8 Tryz.underlying37 info_int rfl (by decide) _ l.length (ints l) rfl (ownsRow_setCell_below HPOP.out (by simp) _) _ _ _ rfl HSL.out (oneCell_ints _) (by omega) (by omega) (by simp; omega) ?_; intro a' c' w2 hown2 hgrow2 hat2)
        have hnx : next.getD x.toNat [] = next[x.toNat]'hxl := by simp; rw [List.getElem?_eq_getElem (by omega)]; rfl
        go_roundg f
        case measure => omega
        case rel =>
          have h1 := HSET.out (by simp)
          rw [hnx] at h1
          refine ⟨l ++ next[x.toNat]'hxl, out.set x.toNat true, a', c', by simp, by simpa [ints] using hown2, ?_, by simp [HOL.out], fun y hy => ?_, by rw [List.length_append]; omega, by omega, by rw [HFR.out, HST.out, hnx]; simp, ?_⟩
          · rw [hgrow2.block w.heap.size (by simp; omega) (fun e => by have : w.heap.size = g := Option.some.inj e; omega), heap_setCell_same HHH.out]
            simp [bools, List.map_set]
          · rcases List.mem_append.1 hy with h | h
            · exact HVAL.out y (by simp [h])
            · exact HV.out _ (List.getElem_mem _) y h
          · exact (hB.setCell (Nat.le_refl _) _).grown hgrow2 (by simp; omega) (fun j hj => by have : g = j := Option.some.inj hj; omega)
end Go.Proofs.Lg
