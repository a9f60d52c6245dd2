/-
  Part K11 of this claim's proof. Joined by merge.py from the texts of wip/tpl.
-/
import Derived.Test.YtclholnhkhjjaaaGreatK10
import Derived.Laws.EntriesVeiled
import Derived.Deep.DeepCutAuto
set_option linter.unusedVariables false
set_option linter.unusedSimpArgs false
set_option linter.unnecessarySimpa false
namespace Go.Proofs.Lg
open Go Go.RowKit Go.Shelf

theorem Vtx.len35 {ls : List Vtx} (h : ∀ x ∈ ls, x.ok) : ∀ r ∈ ls.map Vtx.cells, r.length = 35 := fun r hr => by
  obtain ⟨x, hx, rfl⟩ := List.mem_map.1 hr; exact vcells_len (h x hx)

theorem flat_erase {ls : List Vtx} (h : ∀ x ∈ ls, x.ok) (d : Nat) : (ls.map Vtx.cells).flatten.take (d * 35) ++ (ls.map Vtx.cells).flatten.drop ((d + 1) * 35) = ((ls.eraseIdx d).map Vtx.cells).flatten := by
  have hl : ∀ (ls : List Vtx), (∀ x ∈ ls, x.ok) → ∀ d, (ls.map Vtx.cells).flatten.take (d * 35) = ((ls.take d).map Vtx.cells).flatten ∧ (ls.map Vtx.cells).flatten.drop (d * 35) = ((ls.drop d).map Vtx.cells).flatten := by
    intro ls
    induction ls with
    | nil => intro _ d; simp
    | cons x ls ih =>
      intro h d
      cases d with
      | zero => simp
      | succ d =>
        obtain ⟨h1, h2⟩ := ih (fun y hy => h y (by simp [hy])) d
        have hx := vcells_len (h x (by simp))
        rw [List.take_succ_cons, List.drop_succ_cons, List.map_cons, List.map_cons, List.flatten_cons, List.flatten_cons, ← h1, ← h2]
        rw [show (d + 1) * 35 = x.cells.length + d * 35 by rw [hx]; omega, List.take_length_add_append, List.drop_length_add_append]
        exact ⟨rfl, rfl⟩
  rw [(hl ls h d).1, (hl ls h (d + 1)).2, List.eraseIdx_eq_take_drop_succ, List.map_append, List.flatten_append]

theorem heap_of_below {b : Nat} {w w' : World} (h : Below b w w') {k : Nat} (hk : k < b) {o : Obj} (ho : w.heap[k]? = some o) : w'.heap[k]? = some o := (h.block k hk).trans ho

theorem heap_alloc_at {w : World} {o : Obj} {k : Nat} (hk : k = w.heap.size) : (w.alloc o).heap[k]? = some o := by subst hk; exact World.alloc_heap_new w o
theorem heap_alloc_old {w : World} {o : Obj} {k : Nat} (hk : k < w.heap.size) : (w.alloc o).heap[k]? = w.heap[k]? := ((Below.refl w.heap.size w).alloc (Nat.le_refl _) o).block k hk

/-- Memory ahead of the loops of without. -/
structure W3 (w w3 : World) (d : Nat) (g : Gr) (es : List (Int × Int)) (al : Option Addr) (cl : Nat) (ae : Option Addr) (ce gl cap : Nat) : Prop where
  size : w.heap.size + 4 ≤ w3.heap.size
  c0 : w3.cell? ⟨w.heap.size, 0, none⟩ = some (.slice al g.lines.length cl)
  c0' : w3.cell? ⟨w.heap.size, 1, none⟩ = some (.slice ae es.length ce)
  c1 : w3.cell? ⟨w.heap.size + 1, 0, none⟩ = some (.int .i64 d)
  h2 : w3.heap[w.heap.size + 1 + 1]? = some (.cells #[.slice none 0 0, .slice none 0 0] 25 (0, 0))
  h3 : w3.heap[w.heap.size + 1 + 1 + 1]? = some (.cells #[.slice (some ⟨gl, 0, none⟩) (g.lines.length - 1) cap, .slice none 0 0] 25 (0, 0))
  hgl : w.heap.size + 4 ≤ gl
  hcl : ∃ cur, w3.heap[gl]? = some (.cells cur 40 (0, 0)) ∧ cur.size = cap * 35 ∧ cur.toList.take ((g.lines.length - 1) * 35) = ((g.lines.eraseIdx d).map Vtx.cells).flatten
  hgs : gl < w3.heap.size
  hcm : cap ≤ maxLen
  hnc : g.lines.length - 1 ≤ cap
  hb : Below w.heap.size w w3

/-- Memory within the loops of without. -/
def WRow (w3 : World) (B : Nat) (vl : Value) (out : List (Int × Int)) (wr : World) (vo : Value) : Prop :=
  w3.grownBy wr (some (B + 1 + 1 + 1)) ∧ wr.heap[B + 1 + 1 + 1]? = some (.cells #[vl, vo] 25 (0, 0)) ∧ wr.ownsRow w3.heap.size 74 2 vo out.length (out.map edgeCells).flatten
def WIn (w3 : World) (B : Nat) (vl : Value) (out : List (Int × Int)) (wr : World) : Prop := ∃ vo, WRow w3 B vl out wr vo
/-- The box of an edge. -/
def BoxE (B p : Nat) (e : Int × Int) (w : World) (vo : Value) : Prop := w.heap[p]? = some (.cells #[.int .i64 e.1, .int .i64 e.2] 74 (0, 0)) ∧ vo.ownBlock ≠ some p ∧ p ≠ B + 1 + 1 + 1

theorem WRow.alloc {w3 : World} {B : Nat} {vl vo : Value} {out : List (Int × Int)} {wr : World} (h : WRow w3 B vl out wr vo) (o : Obj) : WRow w3 B vl out (wr.alloc o) vo := by
  obtain ⟨h1, h2, h3⟩ := h
  refine ⟨grownBy_trans' h1 (World.grownBy_alloc _ _ _), ?_, ownsRow_below h3 ((Below.refl _ _).alloc (Nat.le_refl _) _)⟩
  rw [heap_alloc_old (Array.getElem?_eq_some_iff.1 h2).1]
  exact h2
theorem BoxE.alloc {B p : Nat} {e : Int × Int} {w : World} {vo : Value} (h : BoxE B p e w vo) (o : Obj) : BoxE B p e (w.alloc o) vo :=
  ⟨by rw [heap_alloc_old (Array.getElem?_eq_some_iff.1 h.1).1]; exact h.1, h.2⟩
theorem BoxE.new {w3 : World} {B : Nat} {vl vo : Value} {out : List (Int × Int)} {wr : World} (h : WRow w3 B vl out wr vo) (e : Int × Int) : BoxE B wr.heap.size e (wr.alloc (.cells #[.int .i64 e.1, .int .i64 e.2] 74)) vo := by
  refine ⟨heap_alloc_at rfl, fun hk => ?_, fun hk => ?_⟩
  · have := (h.2.2.lt _ hk).2; omega
  · have := (Array.getElem?_eq_some_iff.1 h.2.1).1; omega
theorem BoxE.cells {B p : Nat} {e : Int × Int} {w : World} {vo : Value} (h : BoxE B p e w vo) : w.cell? ⟨p, 0, none⟩ = some (.int .i64 e.1) ∧ w.cell? ⟨p, 1, none⟩ = some (.int .i64 e.2) := ⟨cell_of_heap h.1, cell_of_heap h.1⟩

theorem row_step {w3 wx w1 w4 : World} {B : Nat} {vl vo vo' : Value} {out : List (Int × Int)} {e : Int × Int} {o : Obj} (h : WRow w3 B vl out wx vo) (h1 : wx.grownBy w1 none) (h4 : (w1.alloc o).grownBy w4 vo.ownBlock)
    (hown : w4.ownsRow w3.heap.size 74 2 vo' (out.length + 1) ((out.map edgeCells).flatten ++ edgeCells e)) (hat : vo'.ownBlock = vo.ownBlock ∨ vo'.ownBlock = some (w1.alloc o).heap.size) (hB : B + 4 ≤ w3.heap.size) :
    WRow w3 B vl (out ++ [e]) (w4.setCell ⟨B + 1 + 1 + 1, 1, none⟩ vo') vo' ∧ ∀ (p : Nat) (e' : Int × Int), BoxE B p e' wx vo → BoxE B p e' (w4.setCell ⟨B + 1 + 1 + 1, 1, none⟩ vo') vo' := by
  obtain ⟨g1, g2, g3⟩ := h
  have hs := setCell_grownBy w4 (B + 1 + 1 + 1) 1 vo'
  have hx1 : wx.grownBy (w1.alloc o) none := grownBy_trans' h1 (World.grownBy_alloc _ _ _)
  have hBx : B + 1 + 1 + 1 < wx.heap.size := (Array.getElem?_eq_some_iff.1 g2).1
  have hs1 := hx1.size
  have hs2 := h4.size
  have hs0 := g1.size
  have hw4 : w4.heap[B + 1 + 1 + 1]? = some (.cells #[vl, vo] 25 (0, 0)) := (h4.block _ (by omega) (fun e => by have := (g3.lt _ e.symm).1; omega)).trans ((hx1.block _ hBx (by simp)).trans g2)
  have hob : vo'.ownBlock ≠ some (B + 1 + 1 + 1) := fun e => by
    have := (hown.lt _ e).1; omega
  refine ⟨⟨?_, ?_, ?_⟩, fun p e' hp => ⟨?_, ?_, hp.2.2⟩⟩
  · refine ⟨hs.os.trans (h4.os.trans (hx1.os.trans g1.os)), hs.tape.trans (h4.tape.trans (hx1.tape.trans g1.tape)), hs.output.trans (h4.output.trans (hx1.output.trans g1.output)), by have := hs.size; omega, fun k hk hne => ?_⟩
    exact (hs.block k (by omega) hne).trans ((h4.block k (by omega) (fun e => by have := (g3.lt _ e.symm).1; omega)).trans ((hx1.block k (by omega) (by simp)).trans (g1.block k hk hne)))
  · rw [heap_setCell_same hw4]; rfl
  · have := hown.kept hs (.inr hob)
    simpa using this
  · have hpx := (Array.getElem?_eq_some_iff.1 hp.1).1
    rw [Below.heap_setCell _ _ _ _ hp.2.2]
    exact (h4.block _ (by omega) (fun e => hp.2.1 e.symm)).trans ((hx1.block _ hpx (by simp)).trans hp.1)
  · have hpx := (Array.getElem?_eq_some_iff.1 hp.1).1
    rcases hat with h | h
    · rw [h]; exact hp.2.1
    · rw [h]; intro e; have := Option.some.inj e; omega

set_option maxRecDepth 100000 in
set_option maxHeartbeats 4000000 in
theorem without_walk (vl ve : Value) (g : Gr) (es : List (Int × Int)) (hes : g.edges = es) (d : Nat) (w : World) (hg : GrAt w vl ve g) (hd : d < g.lines.length) (hoke : okEdges g.lines.length es) (hfe : es.length ≤ 60) :
    Calls Tryz.prog 18 #[.agg #[vl, ve], .int .i64 d] w fun e w' => ∃ vl' ve', e = .returned (.agg #[vl', ve']) ∧ GrAt w' vl' ve' (g.without d) ∧ Below w.heap.size w w' := by
  obtain ⟨al, cl, hvl⟩ : ∃ a c, vl = .slice a g.lines.length c := by obtain ⟨a, c, h, _⟩ := hg.lines; exact ⟨a, c, by simpa using h⟩
  obtain ⟨ae, ce, hve⟩ : ∃ a c, ve = .slice a es.length c := by obtain ⟨a, c, h, _⟩ := hg.edges; rw [hes] at h; exact ⟨a, c, by simpa using h⟩
  subst hvl hve
  have HI := Lib.hid hg
  have HOK := Lib.hid hoke
  have hfew := hg.few
  have HES := Lib.hid hes
  clear hg hoke hes
  go_enter Tryz.func18, Tryz.ntmps18
  go_wp2_with (fail)
  obtain ⟨w0, hw0⟩ : ∃ w0, w0 = ((((w.alloc (.cells #[.slice al g.lines.length cl, .slice ae es.length ce] 25)).alloc (.cells #[.int .i64 d] 3)).alloc (.cells #[.slice none 0 0, .slice none 0 0] 25)).alloc (.cells #[.slice none 0 0, .slice none 0 0] 25)) := ⟨_, rfl⟩
  rw [← hw0]
  have hsz : w0.heap.size = w.heap.size + 4 := by rw [hw0]; simp
  have hb0 : Below w.heap.size w w0 := by rw [hw0]; exact (((((Below.refl _ _).alloc (Nat.le_refl _) _).alloc (by simp) _).alloc (by simp; omega) _).alloc (by simp; omega) _)
  have c0 : w0.cell? ⟨w.heap.size, 0, none⟩ = some (.slice al g.lines.length cl) := by rw [hw0]; simp [go_sem]
  have c0' : w0.cell? ⟨w.heap.size, 1, none⟩ = some (.slice ae es.length ce) := by rw [hw0]; simp [go_sem]
  have c1 : w0.cell? ⟨w.heap.size + 1, 0, none⟩ = some (.int .i64 d) := by rw [hw0]; simp [go_sem]
  have h2 : w0.heap[w.heap.size + 1 + 1]? = some (.cells #[.slice none 0 0, .slice none 0 0] 25 (0, 0)) := by rw [hw0, heap_alloc_old (by simp)]; exact heap_alloc_at (by simp)
  have h3 : w0.heap[w.heap.size + 1 + 1 + 1]? = some (.cells #[.slice none 0 0, .slice none 0 0] 25 (0, 0)) := by rw [hw0]; exact heap_alloc_at (by simp)
  clear hw0
  have HK0 := Lib.hid (And.intro hsz (And.intro hb0 (And.intro h2 h3)))
  obtain ⟨C, hC⟩ : ∃ C : World → Prop, C = fun w' => w'.cell? ⟨w.heap.size, 0, none⟩ = some (.slice al g.lines.length cl) ∧ w'.cell? ⟨w.heap.size + 1, 0, none⟩ = some (.int .i64 d) ∧ (w'.cell? ⟨w.heap.size + 1 + 1 + 1, 0, none⟩).isSome = true := ⟨_, rfl⟩
  have hC0 : C w0.drew := by rw [hC]; exact ⟨c0, c1, by show (w0.cell? _).isSome = true; rw [cell_of_heap h3]; rfl⟩
  have hCi : ∀ w', C w' → w'.cell? ⟨w.heap.size, 0, none⟩ = some (.slice al g.lines.length cl) ∧ w'.cell? ⟨w.heap.size + 1, 0, none⟩ = some (.int .i64 d) ∧ (w'.cell? ⟨w.heap.size + 1 + 1 + 1, 0, none⟩).isSome = true := fun w' h => by rw [hC] at h; exact h
  have hp0 : ∀ p : Cls C, p.w.cell? ⟨w.heap.size, 0, none⟩ = some (.slice al g.lines.length cl) := fun p => (hCi _ p.h).1
  have hp1 : ∀ p : Cls C, p.w.cell? ⟨w.heap.size + 1, 0, none⟩ = some (.int .i64 d) := fun p => (hCi _ p.h).2.1
  have hpl0 : ∀ p : Cls C, w.heap.size < p.w.heap.size := fun p => cell_lt (hp0 p)
  have hpl : ∀ p : Cls C, w.heap.size + 1 < p.w.heap.size := fun p => cell_lt (hp1 p)
  have hne : Nonempty (Cls C) := ⟨⟨_, hC0⟩⟩
  have HCC : Hid (∀ w', w0.grownBy w' none → C w') := fun w' h => by
    rw [hC]
    exact ⟨h.cell c0 (by simp), h.cell c1 (by simp), by rw [cell_of_heap ((h.block _ (by omega) (by simp)).trans h3)]; rfl⟩
  have hCL := CloneVertexs_any g.lines (.slice al g.lines.length cl) w0.drew (HI.out.lines.below hb0.drew) HI.out.okl hfew
  have HCL := Lib.hid hCL
  have HC0 := Lib.hid (And.intro c0 (And.intro c0' c1))
  have hd1 : IntKind.i64.wrap ((d : Int) + 1) = ((d + 1 : Nat) : Int) := by rw [Go.Ab.wrap64_id (by omega) (by omega)]; omega
  clear hC hCi hCL c0 c0' c1 h2 h3 hb0
  refine wp_region_ord C 8 [(0, true), (1, true), (3, true), (4, true), (5, true), (2, false), (6, false), (7, true), (8, false)] (by kernel_rfl) (by kernel_rfl) hC0 ?_
  iterate 5 (refine wpOrd_pure rfl (fun _ _ _ _ h => h) (by rfl) (fun K hK => ?_); go_simp; refine hK _ ?_; clear hK K)
  refine wpOrd_eff rfl (by rfl) (fun K hK => ?_)
  go_simp
  refine HCL.out.mono ?_
  rintro e w1 ⟨v1, rfl, hown1, hb1⟩
  have hg1 : w0.grownBy w1 none := grownBy_trans' (drew_grownBy w0 none) (grownBy_of_below hb1 none)
  refine hK _ _ (.inr (HCC.out _ hg1)) ?_
  clear hK K hb1
  rcases hown1.2 with ⟨_, h⟩ | ⟨gl, cap, cur, rfl, hbg, hgh, hncap, hcm, hcs, htake⟩
  · omega
  have hbg0 : w0.heap.size ≤ gl := hbg
  have hdel := DeleteVertexs_any _ g.lines.length gl cap d cur w1 hgh hncap hcs htake vcells_one (by omega) hfew
  have HD := Lib.hid (And.intro hdel (And.intro hg1 (And.intro hbg0 (And.intro hcm hncap))))
  have hde : ((d + 1 : Nat) : Int) = (d : Int) + 1 := by omega
  rw [hde] at hdel
  clear hown1 hbg hgh hcs htake hg1 hde hbg0 hncap hcm
  refine wpOrd_eff rfl (by rfl) (fun K hK => ?_)
  go_simp
  refine hdel.mono ?_
  rintro e w2 ⟨rfl, hgr2, cur2, hh2, hs2, ht2⟩
  clear hdel
  obtain ⟨_, hg1, hbg0, hcm, hncap⟩ := HD.out
  have hg2 : w0.grownBy w2 none := grownBy_step hg1 hgr2 (fun r e => by obtain rfl := Option.some.inj e; exact hbg0)
  refine hK _ _ (.inr (HCC.out _ hg2)) ?_
  clear hK K
  refine wpOrd_pure rfl (fun _ _ _ _ h => h) (by rfl) (fun K hK => ?_); go_simp; refine hK _ ?_; clear hK K
  have x3 : w2.heap[w.heap.size + 1 + 1 + 1]? = some (.cells #[.slice none 0 0, .slice none 0 0] 25 (0, 0)) := (hg2.block _ (by omega) (by simp)).trans HK0.out.2.2.2
  have x3c : w2.cell? ⟨w.heap.size + 1 + 1 + 1, 0, none⟩ = some (.slice none 0 0) := cell_of_heap x3
  have x3f : w2.frozen? ⟨w.heap.size + 1 + 1 + 1, 0, none⟩ = false := frozen_of_heap x3
  have x3l := cell_lt x3c
  have H2 := Lib.hid (And.intro hg2 (And.intro x3 (And.intro hh2 (And.intro hs2 ht2))))
  clear hg2 x3 hh2 hs2 ht2 hgr2 hg1 hbg0 hcm hncap
  refine wpOrd_eff rfl (by rfl) (fun K hK => ?_)
  go_simp
  refine hK _ _ (.inl rfl) ?_
  clear hK K
  refine wpOrd_nil ?_
  obtain ⟨w3, hw3⟩ : ∃ w3, w3 = w2.setCell ⟨w.heap.size + 1 + 1 + 1, 0, none⟩ (.slice (some ⟨gl, 0, none⟩) (g.lines.length - 1) cap) := ⟨_, rfl⟩
  rw [← hw3]
  have H3 : Hid (W3 w w3 d g es al cl ae ce gl cap) := by
    obtain ⟨hg2, x3, hh2, hs2, ht2⟩ := H2.out
    obtain ⟨hsz, hb0, h2, h3⟩ := HK0.out
    obtain ⟨c0, c0', c1⟩ := HC0.out
    obtain ⟨_, _, hbg0, hcm, hncap⟩ := HD.out
    have hgr3 := setCell_grownBy w2 (w.heap.size + 1 + 1 + 1) 0 (.slice (some ⟨gl, 0, none⟩) (g.lines.length - 1) cap)
    rw [← hw3] at hgr3
    have hgl2 : gl < w2.heap.size := (Array.getElem?_eq_some_iff.1 hh2).1
    have k0 := hgr3.cell (hg2.cell c0 (by simp)) (by simp; omega)
    have k1 := hgr3.cell (hg2.cell c0' (by simp)) (by simp; omega)
    have k2 := hgr3.cell (hg2.cell c1 (by simp)) (by simp)
    refine ⟨by have := hgr3.size; omega, k0, k1, k2, ?_, ?_, by omega, ⟨cur2, ?_, hs2, ?_⟩, by have := hgr3.size; omega, hcm, by omega, ?_⟩
    · exact (hgr3.block _ (by omega) (by simp)).trans ((hg2.block _ (by omega) (by simp)).trans h2)
    · rw [hw3, heap_setCell_same x3]; rfl
    · exact (hgr3.block _ hgl2 (by simp; omega)).trans hh2
    · rw [ht2]; exact flat_erase HI.out.okl d
    · exact (hb0.grown hg2 (by omega) (by simp)).grown hgr3 (by have := hg2.size; omega) (fun k e => by obtain rfl := Option.some.inj e; omega)
  clear hw3 x3c x3f x3l H2 HK0 HC0 HD hpl hpl0 hp0 hp1 hne hC0 HCC HCL
  have y0 := H3.out.c0'
  have y1 := H3.out.c1
  have yl := cell_lt y0
  have yl1 := cell_lt y1
  go_wp2_with (fail)
  have HSM : Hid (∀ e ∈ es, SmE e) := fun e he => by
    have := HOK.out e he
    unfold SmE
    omega
  have HED : Hid (es ≠ [] → ∃ b off, ae = some ⟨b, off, none⟩ ∧ ∀ wr, w3.grownBy wr (some (w.heap.size + 1 + 1 + 1)) → ∀ j e, es[j]? = some e → wr.cell? ⟨b, off + j * 2, none⟩ = some (.int .i64 e.1) ∧ wr.cell? ⟨b, off + j * 2 + 1, none⟩ = some (.int .i64 e.2)) := by
    intro hn
    obtain ⟨a', c', hv, _, _, h3⟩ := HI.out.edges
    rw [HES.out] at h3 hv
    obtain ⟨b, off, ha, hr⟩ := h3 (by simpa using hn)
    refine ⟨b, off, by rw [← ha]; exact (Value.slice.inj hv).1, fun wr hgr j e he => ?_⟩
    have hr1 := hr j (edgeCells e) (by rw [List.getElem?_map, he]; rfl)
    obtain ⟨r1, r2⟩ := edge_range hr1
    have hlt : b < w.heap.size := cell_lt r1
    have hb := H3.out.hb
    exact ⟨hgr.cell (below_cell hb r1) (by simp; omega), hgr.cell (below_cell hb r2) (by simp; omega)⟩
  go_loopg [23] (es.length) (fun gk v wr => ∃ k : Nat, gk + k = es.length ∧ v = .int .i64 (k : Nat) ∧ WIn w3 w.heap.size (.slice (some ⟨gl, 0, none⟩) (g.lines.length - 1) cap) ((es.take k).flatMap fun x => jx d x ++ es.flatMap (jy d x)) wr)
  case atStart => exact ⟨0, rfl, rfl, _, ⟨rfl, rfl, rfl, Nat.le_refl _, fun _ _ _ => rfl⟩, H3.out.h3, World.ownsRow_nil _ _ _ _⟩
  case round =>
    obtain ⟨k, hgk, rfl, vo, hW⟩ := hrel
    have HW := Lib.hid hW
    have z1 := hW.1.cell y1 (by simp)
    have zl1 := cell_lt z1
    by_cases hlt : k < es.length
    · obtain ⟨b, off, rfl, hcell⟩ := HED.out (by intro e; rw [e] at hlt; simp at hlt)
      have hx := List.getElem?_eq_getElem hlt
      have hsm := HSM.out es[k] (List.getElem_mem _)
      generalize es[k] = x at hx hsm
      obtain ⟨a1, a2⟩ := x
      obtain ⟨q1, q2⟩ := hcell wr hW.1 k _ hx
      obtain ⟨⟨n1, n2⟩, ⟨n3, n4⟩⟩ := hsm
      dsimp only at q1 q2 n1 n2 n3 n4
      have ql := cell_lt q1
      have HX := Lib.hid (And.intro hx (And.intro hcell hgk))
      clear hx hcell hW
      go_upto_region 7 with (fail)
      obtain ⟨wx, hwx⟩ : ∃ wx, wx = wr.alloc (.cells #[.int .i64 a1, .int .i64 a2] 74) := ⟨_, rfl⟩
      rw [← hwx]
      have p1 : wx.cell? ⟨wr.heap.size, 0, none⟩ = some (.int .i64 a1) := by rw [hwx]; simp [go_sem]
      have p2 : wx.cell? ⟨wr.heap.size, 1, none⟩ = some (.int .i64 a2) := by rw [hwx]; simp [go_sem]
      have p3 : wx.cell? ⟨w.heap.size + 1, 0, none⟩ = some (.int .i64 d) := by rw [hwx]; exact alloc_cell z1 _
      have pl1 := cell_lt p1
      have pl3 := cell_lt p3
      have HWX : Hid (WRow w3 w.heap.size (.slice (some ⟨gl, 0, none⟩) (g.lines.length - 1) cap) ((es.take k).flatMap fun x => jx d x ++ es.flatMap (jy d x)) wx vo) := by rw [hwx]; exact HW.out.alloc _
      have HPX : Hid (BoxE w.heap.size wr.heap.size (a1, a2) wx vo) := by rw [hwx]; exact BoxE.new HW.out (a1, a2)
      have HBX : Hid (w3.heap.size ≤ wr.heap.size) := HW.out.1.size
      clear hwx HW q1 q2 ql
      go_cut [36] (fun s36 w' => s36 = .bool (decide (a1 ≠ d ∧ a2 ≠ d)) ∧ w' = wx)
      case first =>
        by_cases e1 : a1 = d
        · have h1 : (a1 != (d : Int)) = false := by simp [e1]
          have h2 : decide (a1 ≠ d ∧ a2 ≠ d) = false := by simp [e1]
          clear e1
          go_wp2
          go_meet
          exact ⟨by rw [h2], rfl⟩
        · have h1 : (a1 != (d : Int)) = true := by simp [e1]
          by_cases e2 : a2 = d
          · have h3 : (a2 != (d : Int)) = false := by simp [e2]
            have h2 : decide (a1 ≠ d ∧ a2 ≠ d) = false := by simp [e2]
            clear e1 e2
            go_wp2
            go_meet
            exact ⟨by rw [h2], rfl⟩
          · have h3 : (a2 != (d : Int)) = true := by simp [e2]
            have h2 : decide (a1 ≠ d ∧ a2 ≠ d) = true := by simp [e1, e2]
            clear e1 e2
            go_wp2
            go_meet
            exact ⟨by rw [h2], rfl⟩
      case rest =>
        obtain ⟨rfl, hwc⟩ := hcut
        rw [hwc]
        clear hwc wc
        go_upto_if 36 with (fail)
        generalize hq : decide (a1 ≠ (d : Int) ∧ a2 ≠ (d : Int)) = q
        have HQ := Lib.hid hq
        obtain ⟨out, hout⟩ : ∃ out, out = ((es.take k).flatMap fun x => jx d x ++ es.flatMap (jy d x)) := ⟨_, rfl⟩
        rw [← hout] at HWX
        have HOL : Hid (out.length ≤ 3660) := by
          show _ ≤ _
          rw [hout]
          have h1 := jj_len d es (es.take k)
          have h2 : (es.take k).length ≤ 60 := by rw [List.length_take]; omega
          have h3 : (es.take k).length * (es.length + 1) ≤ 60 * 61 := Nat.mul_le_mul h2 (by omega)
          omega
        have HOUT := Lib.hid hout
        clear hq hout
        go_cut [36] (fun s36 w' => ∃ vo', WRow w3 w.heap.size (.slice (some ⟨gl, 0, none⟩) (g.lines.length - 1) cap) (out ++ jx d (a1, a2)) w' vo' ∧ BoxE w.heap.size wr.heap.size (a1, a2) w' vo')
        case first =>
          cases q with
          | false =>
            go_wp2_with (fail)
            go_meet
            have h1 : jx d (a1, a2) = [] := if_neg (by have := HQ.out; simpa using this)
            rw [h1, List.append_nil]
            exact ⟨vo, HWX.out, HPX.out⟩
          | true =>
            go_wp2_with (fail)
            obtain ⟨ao, co, hvo⟩ := ownsRow_form HWX.out.2.2
            subst hvo
            have hvb : ∀ q, (Value.slice ao out.length co).ownBlock = some q → w3.heap.size ≤ q := fun q hq => (HWX.out.2.2.lt q hq).1
            have c3 : wx.cell? ⟨w.heap.size + 1 + 1 + 1, 1, none⟩ = some (.slice ao out.length co) := cell_of_heap HWX.out.2.1
            have cA : wx.cell? ⟨wr.heap.size, 0, none⟩ = some (.int .i64 a1) := HPX.out.cells.1
            have cB : wx.cell? ⟨wr.heap.size, 1, none⟩ = some (.int .i64 a2) := HPX.out.cells.2
            have cD : wx.cell? ⟨w.heap.size + 1, 0, none⟩ = some (.int .i64 d) := HWX.out.1.cell y1 (by simp)
            obtain ⟨C, hC⟩ : ∃ C : World → Prop, C = fun w' => w'.cell? ⟨w.heap.size + 1 + 1 + 1, 1, none⟩ = some (.slice ao out.length co) ∧ w'.cell? ⟨wr.heap.size, 0, none⟩ = some (.int .i64 a1) ∧ w'.cell? ⟨wr.heap.size, 1, none⟩ = some (.int .i64 a2) ∧ w'.cell? ⟨w.heap.size + 1, 0, none⟩ = some (.int .i64 d) := ⟨_, rfl⟩
            have hC0 : C wx.drew := by rw [hC]; exact ⟨c3, cA, cB, cD⟩
            have HCC : Hid (∀ w', wx.grownBy w' none → C w') := fun w' h => by rw [hC]; exact ⟨h.cell c3 (by simp), h.cell cA (by simp), h.cell cB (by simp), h.cell cD (by simp)⟩
            have HCA : Hid (∀ w1 o w4, wx.grownBy w1 none → (w1.alloc o).grownBy w4 (Value.slice ao out.length co).ownBlock → C w4) := fun w1 o w4 h1 h4 => by
              have h := grownBy_trans' h1 (World.grownBy_alloc w1 o none)
              rw [hC]
              exact ⟨h4.cell (h.cell c3 (by simp)) (fun e => by have h5 : w3.heap.size ≤ w.heap.size + 1 + 1 + 1 := hvb _ e.symm; have := H3.out.size; omega), h4.cell (h.cell cA (by simp)) (fun e => HPX.out.2.1 e.symm), h4.cell (h.cell cB (by simp)) (fun e => HPX.out.2.1 e.symm), h4.cell (h.cell cD (by simp)) (fun e => by have h5 : w3.heap.size ≤ w.heap.size + 1 := hvb _ e.symm; have := H3.out.size; omega)⟩
            have hp3 : ∀ p : Cls C, p.w.cell? ⟨w.heap.size + 1 + 1 + 1, 1, none⟩ = some (.slice ao out.length co) := by subst hC; exact fun p => p.h.1
            have hpA : ∀ p : Cls C, p.w.cell? ⟨wr.heap.size, 0, none⟩ = some (.int .i64 a1) := by subst hC; exact fun p => p.h.2.1
            have hpB : ∀ p : Cls C, p.w.cell? ⟨wr.heap.size, 1, none⟩ = some (.int .i64 a2) := by subst hC; exact fun p => p.h.2.2.1
            have hpl3 : ∀ p : Cls C, w.heap.size + 1 + 1 + 1 < p.w.heap.size := fun p => cell_lt (hp3 p)
            have hplA : ∀ p : Cls C, wr.heap.size < p.w.heap.size := fun p => cell_lt (hpA p)
            have hplB : ∀ p : Cls C, wr.heap.size < p.w.heap.size := fun p => cell_lt (hpB p)
            have hne : Nonempty (Cls C) := ⟨⟨_, hC0⟩⟩
            have HCD : Hid (∀ w', C w' → w'.cell? ⟨w.heap.size + 1 + 1 + 1, 1, none⟩ = some (.slice ao out.length co)) := fun w' h => by rw [hC] at h; exact h.1
            have HDD : Hid (wx.cell? ⟨w.heap.size + 1, 0, none⟩ = some (.int .i64 d)) := cD
            clear hC c3 cA cB cD hvb
            refine wp_region_ord C 14 [(0, true), (1, true), (2, true), (3, true), (4, true), (6, true), (7, true), (8, true), (5, false), (9, false), (10, true), (11, false), (12, false), (13, true), (14, false)] (by kernel_rfl) (by kernel_rfl) hC0 ?_
            iterate 8 (refine wpOrd_pure rfl (fun _ _ _ _ h => h) (by rfl) (fun K hK => ?_); go_simp; refine hK _ ?_; clear hK K)
            clear hp3 hpA hpB hpl3 hplA hplB
            refine wpOrd_eff rfl (by rfl) (fun K hK => ?_)
            go_simp
            refine (without1_any d a1 (w.heap.size + 1) wx.drew (show wx.drew.cell? _ = _ from HDD.out) ⟨by omega, by omega⟩).mono ?_
            rintro e v1 ⟨rfl, hv1⟩
            have g1 : wx.grownBy v1 none := grownBy_trans' (drew_grownBy _ _) (grownBy_of_below hv1 none)
            refine hK _ _ (.inr (HCC.out _ g1)) ?_
            clear hK K hv1
            refine wpOrd_eff rfl (by rfl) (fun K hK => ?_)
            go_simp
            refine (without1_any d a2 (w.heap.size + 1) v1 (g1.cell HDD.out (by simp)) ⟨by omega, by omega⟩).mono ?_
            rintro e v2 ⟨rfl, hv2⟩
            have g2 : wx.grownBy v2 none := grownBy_trans' g1 (grownBy_of_below hv2 none)
            refine hK _ _ (.inr (HCC.out _ g2)) ?_
            clear hK K hv2 g1
            refine wpOrd_pure rfl (fun _ _ _ _ h => h) (by rfl) (fun K hK => ?_); go_simp; refine hK _ ?_; clear hK K
            refine wpOrd_eff rfl (by rfl) (fun K hK => ?_)
            go_simp
            refine hK _ _ (.inr (HCC.out _ (grownBy_trans' g2 (World.grownBy_alloc _ _ _)))) ?_
            clear hK K
            obtain ⟨o, ho⟩ : ∃ o : Obj, o = .cells #[.int .i64 (mvI d a1), .int .i64 (mvI d a2)] 74 := ⟨_, rfl⟩
            rw [← ho]
            have hown := ((HWX.out.2.2).kept g2 (Classical.em _)).kept (World.grownBy_alloc v2 o none) (Classical.em _)
            have hsrc : SrcAt (v2.alloc o) (.slice (some ⟨v2.heap.size, 0, none⟩) 1 1) 1 2 (edgeCells (mvI d a1, mvI d a2)) := by
              refine SrcAt.one _ _ _ (edgeCells (mvI d a1, mvI d a2)) fun j u hu => ?_
              rw [cell_of_heap (heap_alloc_at rfl |>.trans (by rw [ho]))]
              simpa [edgeCells] using hu
            have hbs : w3.heap.size ≤ (v2.alloc o).heap.size := by have h1 := HWX.out.1.size; have h2 := g2.size; simp; omega
            have hol := HOL.out
            refine wpOrd_eff rfl (by rfl) (fun K hK => ?_)
            refine wp_app _ _ _ (by rfl) w3.heap.size 74 zEdge 2 16 Tryz.underlying23 info_Edge rfl (by decide) _ out.length (out.map edgeCells).flatten (by rfl) hown _ 1 (edgeCells (mvI d a1, mvI d a2)) (by rfl) hsrc (by intro u hu; simp [edgeCells] at hu; rcases hu with rfl | rfl <;> rfl) (by omega) (by omega) hbs ?_
            intro a' c' v4 hown4 hgrow4 hat4
            have hC4 := HCA.out _ _ _ g2 hgrow4
            have c4 := HCD.out _ hC4
            have l4 := cell_lt c4
            obtain ⟨hst1, hst2⟩ := row_step HWX.out g2 hgrow4 hown4 hat4 H3.out.size
            have f4 : v4.frozen? ⟨w.heap.size + 1 + 1 + 1, 1, none⟩ = false := by
              have h3 : w.heap.size + 1 + 1 + 1 < wx.heap.size := (Array.getElem?_eq_some_iff.1 HWX.out.2.1).1
              have hh := (hgrow4.block (w.heap.size + 1 + 1 + 1) (by have h2 := g2.size; simp; omega) (fun e => by have := (HWX.out.2.2.lt _ e.symm).1; have := H3.out.size; omega)).trans ((heap_alloc_old (by have h2 := g2.size; omega)).trans ((g2.block _ h3 (by simp)).trans HWX.out.2.1))
              exact frozen_of_heap hh
            refine hK _ _ (.inr hC4) ?_
            clear hK K hown hsrc hown4 hgrow4 hat4 hC4 g2 ho
            have HST := Lib.hid (And.intro hst1 hst2)
            clear hst1 hst2
            refine wpOrd_pure rfl (fun _ _ _ _ h => h) (by rfl) (fun K hK => ?_); go_simp; refine hK _ ?_; clear hK K
            refine wpOrd_eff rfl (by rfl) (fun K hK => ?_)
            go_simp
            refine hK _ _ (.inl rfl) ?_
            clear hK K
            refine wpOrd_nil ?_
            go_wp2_with (fail)
            go_meet
            have h1 : jx d (a1, a2) = [(mvI d a1, mvI d a2)] := if_pos (by have := HQ.out; simpa using this)
            rw [h1]
            exact ⟨_, HST.out.1, HST.out.2 _ _ HPX.out⟩
        case rest =>
          obtain ⟨vo', hWC, hPC⟩ := hcut
          have HWC := Lib.hid hWC
          have HPC := Lib.hid hPC
          have y0c := hWC.1.cell y0 (by simp; omega)
          have y0l := cell_lt y0c
          have z0 := H3.out.size
          have z1c := hWC.1.cell y1 (by simp)
          clear hWC hPC HWX HPX HQ
          obtain ⟨wo, rfl⟩ : ∃ wo, wo = wr := ⟨_, rfl⟩
          obtain ⟨gko, rfl⟩ : ∃ x, x = gk := ⟨_, rfl⟩
          go_wp2_with (fail)
          go_loopg [54] (es.length) (fun gk v wr => ∃ (m : Nat) (vo : Value), gk + m = es.length ∧ v = .int .i64 (m : Nat) ∧ WRow w3 w.heap.size (.slice (some ⟨gl, 0, none⟩) (g.lines.length - 1) cap) ((out ++ jx d (a1, a2)) ++ (es.take m).flatMap (jy d (a1, a2))) wr vo ∧ BoxE w.heap.size wo.heap.size (a1, a2) wr vo)
          case atStart => exact ⟨0, vo', rfl, rfl, by simpa using HWC.out, HPC.out⟩
          case round =>
            obtain ⟨m, vo, hgm, rfl, hW, hP⟩ := hrel
            have HW := Lib.hid hW
            have HP := Lib.hid hP
            have z1 := hW.1.cell y1 (by simp)
            have zl1 := cell_lt z1
            by_cases hlt : m < es.length
            · have hx := List.getElem?_eq_getElem hlt
              have hsm := HSM.out es[m] (List.getElem_mem _)
              generalize es[m] = x at hx hsm
              obtain ⟨b1, b2⟩ := x
              obtain ⟨q1, q2⟩ := HX.out.2.1 wr hW.1 m _ hx
              obtain ⟨⟨m1, m2⟩, ⟨m3, m4⟩⟩ := hsm
              dsimp only at q1 q2 m1 m2 m3 m4
              have ql := cell_lt q1
              obtain ⟨pc1, pc2⟩ := hP.cells
              have HY := Lib.hid (And.intro hx hgm)
              clear hx hW hP
              go_upto_region 12 with (fail)
              obtain ⟨wy, hwy⟩ : ∃ wy, wy = wr.alloc (.cells #[.int .i64 b1, .int .i64 b2] 74) := ⟨_, rfl⟩
              rw [← hwy]
              have p1 : wy.cell? ⟨wr.heap.size, 0, none⟩ = some (.int .i64 b1) := by rw [hwy]; simp [go_sem]
              have p2 : wy.cell? ⟨wr.heap.size, 1, none⟩ = some (.int .i64 b2) := by rw [hwy]; simp [go_sem]
              have p3 : wy.cell? ⟨w.heap.size + 1, 0, none⟩ = some (.int .i64 d) := by rw [hwy]; exact alloc_cell z1 _
              have p4 : wy.cell? ⟨wo.heap.size, 0, none⟩ = some (.int .i64 a1) := by rw [hwy]; exact alloc_cell pc1 _
              have p5 : wy.cell? ⟨wo.heap.size, 1, none⟩ = some (.int .i64 a2) := by rw [hwy]; exact alloc_cell pc2 _
              have pl1 := cell_lt p1
              have pl3 := cell_lt p3
              have pl4 := cell_lt p4
              obtain ⟨out2, hout2⟩ : ∃ out2, out2 = (out ++ jx d (a1, a2)) ++ (es.take m).flatMap (jy d (a1, a2)) := ⟨_, rfl⟩
              have HOUT2 := Lib.hid hout2
              have HWY : Hid (WRow w3 w.heap.size (.slice (some ⟨gl, 0, none⟩) (g.lines.length - 1) cap) out2 wy vo) := by rw [hwy, hout2]; exact HW.out.alloc _
              have HPY : Hid (BoxE w.heap.size wr.heap.size (b1, b2) wy vo) := by rw [hwy]; exact BoxE.new HW.out (b1, b2)
              have HPX2 : Hid (BoxE w.heap.size wo.heap.size (a1, a2) wy vo) := by rw [hwy]; exact HP.out.alloc _
              have HOL2 : Hid (out2.length ≤ 4000) := by
                show _ ≤ _
                have h1 := HOL.out
                have h2 := jx_len d (a1, a2)
                have h3 := jy_len d (a1, a2) (es.take m)
                have h4 : (es.take m).length ≤ 60 := by rw [List.length_take]; omega
                rw [hout2, List.length_append, List.length_append]
                omega
              clear hwy HW HP q1 q2 ql pc1 pc2 hout2
              go_cut [84] (fun s84 w' => s84 = .bool (decide (a2 = d ∧ b1 = d ∧ a1 ≠ b2 ∧ 0 ≤ a1 ∧ 0 ≤ b2)) ∧ w' = wy)
              case first =>
                by_cases e1 : a2 = d
                · have h1 : (a2 == (d : Int)) = true := by simp [e1]
                  by_cases e2 : b1 = d
                  · have h2 : (b1 == (d : Int)) = true := by simp [e2]
                    by_cases e3 : a1 = b2
                    · have h3 : (a1 != b2) = false := by simp [e3]
                      have h6 : decide (a2 = d ∧ b1 = d ∧ a1 ≠ b2 ∧ 0 ≤ a1 ∧ 0 ≤ b2) = false := by simp [e3]
                      go_wp2
                      go_meet
                      exact ⟨by rw [h6], rfl⟩
                    · have h3 : (a1 != b2) = true := by simp [e3]
                      by_cases e4 : 0 ≤ a1
                      · have h4 : decide (0 ≤ a1) = true := by simp [e4]
                        by_cases e5 : 0 ≤ b2
                        · have h5 : decide (0 ≤ b2) = true := by simp [e5]
                          have h6 : decide (a2 = d ∧ b1 = d ∧ a1 ≠ b2 ∧ 0 ≤ a1 ∧ 0 ≤ b2) = true := by simp [e1, e2, e3, e4, e5]
                          go_wp2
                          go_meet
                          exact ⟨by rw [h6], rfl⟩
                        · have h5 : decide (0 ≤ b2) = false := by simp [e5]
                          have h6 : decide (a2 = d ∧ b1 = d ∧ a1 ≠ b2 ∧ 0 ≤ a1 ∧ 0 ≤ b2) = false := by simp [e5]
                          go_wp2
                          go_meet
                          exact ⟨by rw [h6], rfl⟩
                      · have h4 : decide (0 ≤ a1) = false := by simp [e4]
                        have h6 : decide (a2 = d ∧ b1 = d ∧ a1 ≠ b2 ∧ 0 ≤ a1 ∧ 0 ≤ b2) = false := by simp [e4]
                        go_wp2
                        go_meet
                        exact ⟨by rw [h6], rfl⟩
                  · have h2 : (b1 == (d : Int)) = false := by simp [e2]
                    have h6 : decide (a2 = d ∧ b1 = d ∧ a1 ≠ b2 ∧ 0 ≤ a1 ∧ 0 ≤ b2) = false := by simp [e2]
                    go_wp2
                    go_meet
                    exact ⟨by rw [h6], rfl⟩
                · have h1 : (a2 == (d : Int)) = false := by simp [e1]
                  have h6 : decide (a2 = d ∧ b1 = d ∧ a1 ≠ b2 ∧ 0 ≤ a1 ∧ 0 ≤ b2) = false := by simp [e1]
                  go_wp2
                  go_meet
                  exact ⟨by rw [h6], rfl⟩
              case rest =>
                obtain ⟨rfl, hwc⟩ := hcut
                rw [hwc]
                clear hwc wc p1 p2 p3 p4 p5 pl1 pl3 pl4
                go_upto_if 84 with (fail)
                generalize hq : decide (a2 = (d : Int) ∧ b1 = (d : Int) ∧ a1 ≠ b2 ∧ 0 ≤ a1 ∧ 0 ≤ b2) = q
                have HQ := Lib.hid hq
                clear hq
                have hnext : Hid ((es.take (m + 1)).flatMap (jy d (a1, a2)) = (es.take m).flatMap (jy d (a1, a2)) ++ jy d (a1, a2) (b1, b2)) := by
                  show _ = _
                  rw [List.take_add_one, HY.out.1]
                  simp
                cases q with
                | false =>
                  go_wp2_with (fail)
                  go_roundg (gk - 1)
                  case measure => omega
                  case rel =>
                    have h1 : jy d (a1, a2) (b1, b2) = [] := if_neg (by have := HQ.out; simpa using this)
                    have h2 := HY.out.2
                    refine ⟨m + 1, vo, by omega, by go_num, ?_, HPX2.out⟩
                    rw [hnext.out, h1, List.append_nil, ← HOUT2.out]
                    exact HWY.out
                | true =>
                  go_wp2_with (fail)
                  obtain ⟨ao, co, hvo⟩ := ownsRow_form HWY.out.2.2
                  subst hvo
                  have hvb : ∀ q, (Value.slice ao out2.length co).ownBlock = some q → w3.heap.size ≤ q := fun q hq => (HWY.out.2.2.lt q hq).1
                  have c3 : wy.cell? ⟨w.heap.size + 1 + 1 + 1, 1, none⟩ = some (.slice ao out2.length co) := cell_of_heap HWY.out.2.1
                  have cA : wy.cell? ⟨wo.heap.size, 0, none⟩ = some (.int .i64 a1) := HPX2.out.cells.1
                  have cB : wy.cell? ⟨wr.heap.size, 1, none⟩ = some (.int .i64 b2) := HPY.out.cells.2
                  have cD : wy.cell? ⟨w.heap.size + 1, 0, none⟩ = some (.int .i64 d) := HWY.out.1.cell y1 (by simp)
                  obtain ⟨C, hC⟩ : ∃ C : World → Prop, C = fun w' => w'.cell? ⟨w.heap.size + 1 + 1 + 1, 1, none⟩ = some (.slice ao out2.length co) ∧ w'.cell? ⟨wo.heap.size, 0, none⟩ = some (.int .i64 a1) ∧ w'.cell? ⟨wr.heap.size, 1, none⟩ = some (.int .i64 b2) ∧ w'.cell? ⟨w.heap.size + 1, 0, none⟩ = some (.int .i64 d) := ⟨_, rfl⟩
                  have hC0 : C wy.drew := by rw [hC]; exact ⟨c3, cA, cB, cD⟩
                  have HCC : Hid (∀ w', wy.grownBy w' none → C w') := fun w' h => by rw [hC]; exact ⟨h.cell c3 (by simp), h.cell cA (by simp), h.cell cB (by simp), h.cell cD (by simp)⟩
                  have HCA : Hid (∀ w1 o w4, wy.grownBy w1 none → (w1.alloc o).grownBy w4 (Value.slice ao out2.length co).ownBlock → C w4) := fun w1 o w4 h1 h4 => by
                    have h := grownBy_trans' h1 (World.grownBy_alloc w1 o none)
                    rw [hC]
                    exact ⟨h4.cell (h.cell c3 (by simp)) (fun e => by have h5 : w3.heap.size ≤ w.heap.size + 1 + 1 + 1 := hvb _ e.symm; have := H3.out.size; omega), h4.cell (h.cell cA (by simp)) (fun e => HPX2.out.2.1 e.symm), h4.cell (h.cell cB (by simp)) (fun e => HPY.out.2.1 e.symm), h4.cell (h.cell cD (by simp)) (fun e => by have h5 : w3.heap.size ≤ w.heap.size + 1 := hvb _ e.symm; have := H3.out.size; omega)⟩
                  have hp3 : ∀ p : Cls C, p.w.cell? ⟨w.heap.size + 1 + 1 + 1, 1, none⟩ = some (.slice ao out2.length co) := by subst hC; exact fun p => p.h.1
                  have hpA : ∀ p : Cls C, p.w.cell? ⟨wo.heap.size, 0, none⟩ = some (.int .i64 a1) := by subst hC; exact fun p => p.h.2.1
                  have hpB : ∀ p : Cls C, p.w.cell? ⟨wr.heap.size, 1, none⟩ = some (.int .i64 b2) := by subst hC; exact fun p => p.h.2.2.1
                  have hpl3 : ∀ p : Cls C, w.heap.size + 1 + 1 + 1 < p.w.heap.size := fun p => cell_lt (hp3 p)
                  have hplA : ∀ p : Cls C, wo.heap.size < p.w.heap.size := fun p => cell_lt (hpA p)
                  have hplB : ∀ p : Cls C, wr.heap.size < p.w.heap.size := fun p => cell_lt (hpB p)
                  have hne : Nonempty (Cls C) := ⟨⟨_, hC0⟩⟩
                  have HCD : Hid (∀ w', C w' → w'.cell? ⟨w.heap.size + 1 + 1 + 1, 1, none⟩ = some (.slice ao out2.length co)) := fun w' h => by rw [hC] at h; exact h.1
                  have HDD : Hid (wy.cell? ⟨w.heap.size + 1, 0, none⟩ = some (.int .i64 d)) := cD
                  clear hC c3 cA cB cD hvb
                  refine wp_region_ord C 14 [(0, true), (1, true), (2, true), (3, true), (4, true), (6, true), (7, true), (8, true), (5, false), (9, false), (10, true), (11, false), (12, false), (13, true), (14, false)] (by kernel_rfl) (by kernel_rfl) hC0 ?_
                  iterate 8 (refine wpOrd_pure rfl (fun _ _ _ _ h => h) (by rfl) (fun K hK => ?_); go_simp; refine hK _ ?_; clear hK K)
                  clear hp3 hpA hpB hpl3 hplA hplB
                  refine wpOrd_eff rfl (by rfl) (fun K hK => ?_)
                  go_simp
                  refine (without1_any d a1 (w.heap.size + 1) wy.drew (show wy.drew.cell? _ = _ from HDD.out) ⟨by omega, by omega⟩).mono ?_
                  rintro e v1 ⟨rfl, hv1⟩
                  have g1 : wy.grownBy v1 none := grownBy_trans' (drew_grownBy _ _) (grownBy_of_below hv1 none)
                  refine hK _ _ (.inr (HCC.out _ g1)) ?_
                  clear hK K hv1
                  refine wpOrd_eff rfl (by rfl) (fun K hK => ?_)
                  go_simp
                  refine (without1_any d b2 (w.heap.size + 1) v1 (g1.cell HDD.out (by simp)) ⟨by omega, by omega⟩).mono ?_
                  rintro e v2 ⟨rfl, hv2⟩
                  have g2 : wy.grownBy v2 none := grownBy_trans' g1 (grownBy_of_below hv2 none)
                  refine hK _ _ (.inr (HCC.out _ g2)) ?_
                  clear hK K hv2 g1
                  refine wpOrd_pure rfl (fun _ _ _ _ h => h) (by rfl) (fun K hK => ?_); go_simp; refine hK _ ?_; clear hK K
                  refine wpOrd_eff rfl (by rfl) (fun K hK => ?_)
                  go_simp
                  refine hK _ _ (.inr (HCC.out _ (grownBy_trans' g2 (World.grownBy_alloc _ _ _)))) ?_
                  clear hK K
                  obtain ⟨o, ho⟩ : ∃ o : Obj, o = .cells #[.int .i64 (mvI d a1), .int .i64 (mvI d b2)] 74 := ⟨_, rfl⟩
                  rw [← ho]
                  have hown := ((HWY.out.2.2).kept g2 (Classical.em _)).kept (World.grownBy_alloc v2 o none) (Classical.em _)
                  have hsrc : SrcAt (v2.alloc o) (.slice (some ⟨v2.heap.size, 0, none⟩) 1 1) 1 2 (edgeCells (mvI d a1, mvI d b2)) := by
                    refine SrcAt.one _ _ _ (edgeCells (mvI d a1, mvI d b2)) fun j u hu => ?_
                    rw [cell_of_heap (heap_alloc_at rfl |>.trans (by rw [ho]))]
                    simpa [edgeCells] using hu
                  have hbs : w3.heap.size ≤ (v2.alloc o).heap.size := by have h1 := HWY.out.1.size; have h2 := g2.size; simp; omega
                  have hol := HOL2.out
                  refine wpOrd_eff rfl (by rfl) (fun K hK => ?_)
                  refine wp_app _ _ _ (by rfl) w3.heap.size 74 zEdge 2 16 Tryz.underlying23 info_Edge rfl (by decide) _ out2.length (out2.map edgeCells).flatten (by rfl) hown _ 1 (edgeCells (mvI d a1, mvI d b2)) (by rfl) hsrc (by intro u hu; simp [edgeCells] at hu; rcases hu with rfl | rfl <;> rfl) (by omega) (by omega) hbs ?_
                  intro a' c' v4 hown4 hgrow4 hat4
                  have hC4 := HCA.out _ _ _ g2 hgrow4
                  have c4 := HCD.out _ hC4
                  have l4 := cell_lt c4
                  obtain ⟨hst1, hst2⟩ := row_step HWY.out g2 hgrow4 hown4 hat4 H3.out.size
                  have f4 : v4.frozen? ⟨w.heap.size + 1 + 1 + 1, 1, none⟩ = false := by
                    have h3 : w.heap.size + 1 + 1 + 1 < wy.heap.size := (Array.getElem?_eq_some_iff.1 HWY.out.2.1).1
                    have hh := (hgrow4.block (w.heap.size + 1 + 1 + 1) (by have h2 := g2.size; simp; omega) (fun e => by have := (HWY.out.2.2.lt _ e.symm).1; have := H3.out.size; omega)).trans ((heap_alloc_old (by have h2 := g2.size; omega)).trans ((g2.block _ h3 (by simp)).trans HWY.out.2.1))
                    exact frozen_of_heap hh
                  refine hK _ _ (.inr hC4) ?_
                  clear hK K hown hsrc hown4 hgrow4 hat4 hC4 g2 ho
                  have HST := Lib.hid (And.intro hst1 hst2)
                  clear hst1 hst2
                  refine wpOrd_pure rfl (fun _ _ _ _ h => h) (by rfl) (fun K hK => ?_); go_simp; refine hK _ ?_; clear hK K
                  refine wpOrd_eff rfl (by rfl) (fun K hK => ?_)
                  go_simp
                  refine hK _ _ (.inl rfl) ?_
                  clear hK K
                  refine wpOrd_nil ?_
                  go_wp2_with (fail)
                  go_roundg (gk - 1)
                  case measure => omega
                  case rel =>
                    have h1 : jy d (a1, a2) (b1, b2) = [(mvI d a1, mvI d b2)] := if_pos (by have := HQ.out; simpa using this)
                    have h2 := HY.out.2
                    refine ⟨m + 1, _, by omega, by go_num, ?_, HST.out.2 _ _ HPX2.out⟩
                    rw [hnext.out, h1, ← List.append_assoc, ← HOUT2.out]
                    exact HST.out.1
            · have hml : m = es.length := by omega
              have h1 := HX.out.2.2
              have h2 := HW.out
              rw [hml, List.take_length] at h2
              have H2W := Lib.hid h2
              clear h2 hW hP HW HP
              go_wp2_with (fail)
              go_roundg (gko - 1)
              case measure => omega
              case rel =>
                refine ⟨k + 1, by omega, by go_num, vo, ?_⟩
                have h3 := H2W.out
                rw [HOUT.out, List.append_assoc] at h3
                rw [List.take_add_one, HX.out.1]
                simpa using h3
    · have hkl : k = es.length := by omega
      have h2 := hW
      rw [hkl, List.take_length, ← joinE_eq] at h2
      have H2W := Lib.hid h2
      obtain ⟨avo, cvo, hvo⟩ := ownsRow_form h2.2.2
      subst hvo
      obtain ⟨out, hout⟩ : ∃ out, out = joinE es d := ⟨_, rfl⟩
      rw [← hout] at H2W h2
      have hol : out.length ≤ 3660 := by rw [hout]; exact join_len es d hfe
      have c3 : wr.cell? ⟨w.heap.size + 1 + 1 + 1, 1, none⟩ = some (.slice avo out.length cvo) := cell_of_heap h2.2.1
      have l3 := cell_lt c3
      have hsort := SortEdges_own out (.slice avo out.length cvo) w3.heap.size wr (by rw [hout]; exact sm_join HSM.out d) (by omega) h2.2.2
      have HOUT := Lib.hid hout
      clear h2 hW HW hout
      go_wp2_with (fail)
      refine hsort.mono ?_
      rintro e w5 ⟨rfl, hown5, hgr5⟩
      clear hsort
      have hB3 : some (w.heap.size + 1 + 1 + 1) ≠ (Value.slice avo out.length cvo).ownBlock := fun e => by have h5 := (H2W.out.2.2.lt _ e.symm).1; have := H3.out.size; omega
      have x5 : w5.heap[w.heap.size + 1 + 1 + 1]? = some (.cells #[.slice (some ⟨gl, 0, none⟩) (g.lines.length - 1) cap, .slice avo out.length cvo] 25 (0, 0)) := (hgr5.block _ l3 hB3).trans H2W.out.2.1
      have c5 : w5.cell? ⟨w.heap.size + 1 + 1 + 1, 1, none⟩ = some (.slice avo out.length cvo) := cell_of_heap x5
      have l5 := cell_lt c5
      have hol5 : (out.mergeSort leE).length ≤ 1000000 := by rw [List.length_mergeSort]; omega
      have hown5' : w5.ownsRow w3.heap.size 74 2 (.slice avo out.length cvo) (out.mergeSort leE).length ((out.mergeSort leE).map edgeCells).flatten := by rw [List.length_mergeSort]; exact hown5
      have hcomp := CompactEdges_own (out.mergeSort leE) (.slice avo out.length cvo) w3.heap.size w5 hol5 hown5'
      have H5 := Lib.hid (And.intro hgr5 (And.intro x5 hB3))
      clear hown5 hown5' hgr5 x5 hB3 c3 l3 hol5
      go_wp2_with (fail)
      refine hcomp.mono ?_
      rintro e w6 ⟨ve', rfl, hown6, hgr6⟩
      clear hcomp
      obtain ⟨ae', ce', hve'⟩ := ownsRow_form hown6
      subst hve'
      obtain ⟨hgr5, x5, hB3⟩ := H5.out
      have x6 : w6.heap[w.heap.size + 1 + 1 + 1]? = some (.cells #[.slice (some ⟨gl, 0, none⟩) (g.lines.length - 1) cap, .slice avo out.length cvo] 25 (0, 0)) := (hgr6.block _ l5 hB3).trans x5
      have c6 : w6.cell? ⟨w.heap.size + 1 + 1 + 1, 1, none⟩ = some (.slice avo out.length cvo) := cell_of_heap x6
      have f6 : w6.frozen? ⟨w.heap.size + 1 + 1 + 1, 1, none⟩ = false := frozen_of_heap x6
      have l6 := cell_lt c6
      have c60 : w6.cell? ⟨w.heap.size + 1 + 1 + 1, 0, none⟩ = some (.slice (some ⟨gl, 0, none⟩) (g.lines.length - 1) cap) := cell_of_heap x6
      have hB2 : some (w.heap.size + 1 + 1) ≠ (Value.slice avo out.length cvo).ownBlock := fun e => by have h5 := (H2W.out.2.2.lt _ e.symm).1; have := H3.out.size; omega
      have x62 : w6.heap[w.heap.size + 1 + 1]? = some (.cells #[.slice none 0 0, .slice none 0 0] 25 (0, 0)) := (hgr6.block _ (by omega) hB2).trans ((hgr5.block _ (by have := H2W.out.1.size; have := H3.out.size; omega) hB2).trans ((H2W.out.1.block _ (by have := H3.out.size; omega) (by simp)).trans H3.out.h2))
      have d60 : w6.cell? ⟨w.heap.size + 1 + 1, 0, none⟩ = some (.slice none 0 0) := cell_of_heap x62
      have d61 : w6.cell? ⟨w.heap.size + 1 + 1, 1, none⟩ = some (.slice none 0 0) := cell_of_heap x62
      have e60 : w6.frozen? ⟨w.heap.size + 1 + 1, 0, none⟩ = false := frozen_of_heap x62
      have e61 : w6.frozen? ⟨w.heap.size + 1 + 1, 1, none⟩ = false := frozen_of_heap x62
      have d6l := cell_lt d60
      have H6 := Lib.hid (And.intro hgr6 (And.intro x6 hown6))
      clear hgr6 x6 hown6 hgr5 x5 hB3 c5 l5 x62 hB2
      go_wp2_with (fail)
      obtain ⟨hgr6, x6, hown6⟩ := H6.out
      obtain ⟨hgr5, x5, hB3⟩ := H5.out
      obtain ⟨hw1, hw2, hw3⟩ := H2W.out
      obtain ⟨hz1, hz2⟩ : w.heap.size + 4 ≤ w3.heap.size ∧ w.heap.size + 4 ≤ gl := ⟨H3.out.size, H3.out.hgl⟩
      have hob : ∀ q, (Value.slice avo out.length cvo).ownBlock = some q → w3.heap.size ≤ q := fun q hq => (hw3.lt q hq).1
      have hoe : ∀ q, (Value.slice ae' (compE (out.mergeSort leE)).length ce').ownBlock = some q → w3.heap.size ≤ q := fun q hq => (hown6.lt q hq).1
      have hs5 := hgr5.size
      have hs6 := hgr6.size
      have hsr := hw1.size
      have hgs := H3.out.hgs
      have k1 := setCell_grownBy w6 (w.heap.size + 1 + 1 + 1) 1 (.slice ae' (compE (out.mergeSort leE)).length ce')
      have x62 : w6.heap[w.heap.size + 1 + 1]? = some (.cells #[.slice none 0 0, .slice none 0 0] 25 (0, 0)) := (hgr6.block _ (by omega) (fun e => by have := hob _ e.symm; omega)).trans ((hgr5.block _ (by omega) (fun e => by have := hob _ e.symm; omega)).trans ((hw1.block _ (by omega) (by simp)).trans H3.out.h2))
      have xgl : w6.heap[gl]? = w3.heap[gl]? := (hgr6.block _ (by omega) (fun e => by have := hob _ e.symm; omega)).trans ((hgr5.block _ (by omega) (fun e => by have := hob _ e.symm; omega)).trans (hw1.block _ hgs (by simp; omega)))
      have hbl6 : Below w.heap.size w w6 := ((H3.out.hb.grown hw1 (by omega) (fun k e => by obtain rfl := Option.some.inj e; omega)).grown hgr5 (by omega) (fun k e => by have := hob k e; omega)).grown hgr6 (by omega) (fun k e => by have := hob k e; omega)
      have y8 := (k1.block _ (by omega) (by simp)).trans x62
      have y8' := heap_setCell_same (heap_setCell_same y8 (k := 0) (.slice (some ⟨gl, 0, none⟩) (g.lines.length - 1) cap)) (k := 1) (.slice ae' (compE (out.mergeSort leE)).length ce')
      generalize w6.setCell ⟨w.heap.size + 1 + 1 + 1, 1, none⟩ (.slice ae' (compE (out.mergeSort leE)).length ce') = w7 at k1 y8 y8' ⊢
      have k2 := setCell_grownBy w7 (w.heap.size + 1 + 1) 0 (.slice (some ⟨gl, 0, none⟩) (g.lines.length - 1) cap)
      have k3 := setCell_grownBy (w7.setCell ⟨w.heap.size + 1 + 1, 0, none⟩ (.slice (some ⟨gl, 0, none⟩) (g.lines.length - 1) cap)) (w.heap.size + 1 + 1) 1 (.slice ae' (compE (out.mergeSort leE)).length ce')
      have k4 := grownBy_trans' k2 k3
      clear k2 k3
      generalize (w7.setCell ⟨w.heap.size + 1 + 1, 0, none⟩ (.slice (some ⟨gl, 0, none⟩) (g.lines.length - 1) cap)).setCell ⟨w.heap.size + 1 + 1, 1, none⟩ (.slice ae' (compE (out.mergeSort leE)).length ce') = w8 at k4 y8' ⊢
      have hs7 := k1.size
      have hgl8 : w8.heap[gl]? = w3.heap[gl]? := (k4.block _ (by omega) (by simp; omega)).trans ((k1.block _ (by omega) (by simp; omega)).trans xgl)
      have hbl8 : Below w.heap.size w w8 := (hbl6.grown k1 (by omega) (fun k e => by obtain rfl := Option.some.inj e; omega)).grown k4 (by omega) (fun k e => by obtain rfl := Option.some.inj e; omega)
      have hown8 := (hown6.kept k1 (.inr (fun e => by have := hoe _ e; omega))).kept k4 (.inr (fun e => by have := hoe _ e; omega))
      refine bodyPost_ret_by (results_cell_row rfl _ _ (w.heap.size + 1 + 1) 25 _ (0, 0) _ (by rfl) y8' Tryz.underlying25 rfl (by kernel_rfl)) rfl ?_
      refine ⟨.slice (some ⟨gl, 0, none⟩) (g.lines.length - 1) cap, .slice ae' (compE (out.mergeSort leE)).length ce', rfl, ?_, hbl8⟩
      have hel : (g.lines.eraseIdx d).length = g.lines.length - 1 := List.length_eraseIdx_of_lt hd
      have hok8 : ∀ x ∈ g.lines.eraseIdx d, x.ok := fun x hx => HI.out.okl x (List.mem_of_mem_eraseIdx hx)
      have hge : (g.without d).edges = compE (out.mergeSort leE) := by unfold Gr.without; rw [HES.out, HOUT.out]
      have hgo : okEdges (g.lines.length - 1) (g.without d).edges := without_ok (by rw [HES.out]; exact HOK.out) hd
      refine ⟨?_, ?_, hok8, fun e he => ?_, ?_, ?_⟩
      · obtain ⟨cur8, q1, q2, q3⟩ := H3.out.hcl
        refine ownsRow_slN (base := 0) (e := 40) (n := g.lines.length - 1) (xs := g.lines.eraseIdx d) (f := Vtx.cells) ?_ hel (fun x hx => vcells_len (hok8 x hx))
        rw [List.flatMap_def]
        refine ⟨?_, .inr ⟨gl, cap, cur8, rfl, Nat.zero_le _, hgl8.trans q1, H3.out.hnc, H3.out.hcm, q2, q3⟩⟩
        rw [Go.Ab.flatten_len _ (Vtx.len35 hok8), List.length_map, hel]
      · rw [hge]
        refine ownsRow_slN (base := w3.heap.size) (e := 74) (xs := compE (out.mergeSort leE)) (f := edgeCells) ?_ rfl (fun _ _ => rfl)
        rw [List.flatMap_def]
        exact hown8
      · have := hgo e he
        unfold I64
        omega
      · show (g.lines.eraseIdx d).length ≤ _
        omega
      · rw [hge]
        have h1 := compE_len (out.mergeSort leE)
        rw [List.length_mergeSort] at h1
        omega

/-- without: the graph without the line, new in memory. -/
theorem without_any (vl ve : Value) (g : Gr) (d : Nat) (w : World) (hg : GrAt w vl ve g) (hd : d < g.lines.length) (hck : g.check = 0) (hfe : g.edges.length ≤ 60) :
    Calls Tryz.prog 18 #[.agg #[vl, ve], .int .i64 d] w fun e w' => ∃ vl' ve', e = .returned (.agg #[vl', ve']) ∧ GrAt w' vl' ve' (g.without d) ∧ Below w.heap.size w w' :=
  without_walk vl ve g g.edges rfl d w hg hd (Gr.check_ok hck).2 hfe
end Go.Proofs.Lg
