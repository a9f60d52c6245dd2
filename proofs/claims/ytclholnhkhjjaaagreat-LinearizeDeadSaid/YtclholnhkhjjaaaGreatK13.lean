/-
  Part K13 of this claim's proof. Joined by merge.py from the texts of wip/tpl.
-/
import Derived.Test.YtclholnhkhjjaaaGreatK11
import Derived.Test.YtclholnhkhjjaaaGreatK12
import Derived.Test.YtclholnhkhjjaaaGreatL5
import Derived.Test.YtclholnhkhjjaaaGreatL6
import Derived.Test.YtclholnhkhjjaaaGreatA1
import Derived.Test.YtclholnhkhjjaaaGreatZ0
import Derived.Test.YtclholnhkhjjaaaGreatPA
import Derived.Deep.DeepCutAuto
set_option linter.unusedVariables false
set_option linter.unusedSimpArgs false
set_option linter.unnecessarySimpa false
namespace Go.Proofs.Lg
open Go Go.RowKit Go.Shelf

/-- No line is asked about: the graph is not fine, has no lines, or the line is living. -/
theorem ownsRow_ne {w : World} {base e size n : Nat} {v : Value} {xs : List Value} (h : w.ownsRow base e size v n xs) {p t : Nat} {cs : Array Value} {f : Nat × Nat} (hp : w.heap[p]? = some (.cells cs t f)) (ht : t ≠ e) : v.ownBlock ≠ some p := by
  intro hv
  rcases h.2 with ⟨rfl, _⟩ | ⟨g, cap, cur, rfl, _, hg, _⟩
  · cases hv
  · obtain rfl : g = p := by simpa [Value.ownBlock] using hv
    rw [hg] at hp
    injection hp with hp
    injection hp with _ h2 _
    exact ht h2.symm

section
variable {P : Program} {ops : Array Oper} {Q : Exit → Act → World → Prop} {C : World → Prop}
theorem wpOrd_skip_k {ex i : Nat} {o : Oper} {rest : List (Nat × Bool)} {a : Act} {w : World} (hi : ops[i]? = some o) (hQ : ∀ v c a w, Q (.panic c) (a.put o.dst v) w → Q (.panic c) a w) (hg : Region.wanted o (yielded ops a.tmps) = false)
    (h : ∀ K : Act → Prop, (∀ a, wpOrd P ops Q C ex rest a w → K a) → K (a.put o.dst undef)) : wpOrd P ops Q C ex ((i, true) :: rest) a w :=
  wpOrd_skip hi hQ hg (h _ fun _ h => h)
end

theorem len_flatMap' {α β : Type} (f : α → List β) : ∀ l : List α, (∀ x ∈ l, f x ≠ []) → l.length ≤ (l.flatMap f).length
  | [], _ => Nat.zero_le _
  | x :: l, h => by
    have h1 := len_flatMap' f l fun y hy => h y (by simp [hy])
    have h2 := List.length_pos_iff.2 (h x (by simp))
    rw [List.flatMap_cons, List.length_append, List.length_cons]; omega
theorem len_flatMap_mem' {α β : Type} (f : α → List β) : ∀ (l : List α) (x : α), x ∈ l → (f x).length ≤ (l.flatMap f).length
  | [], _, h => absurd h (by simp)
  | y :: l, x, h => by
    rw [List.flatMap_cons, List.length_append]
    rcases List.mem_cons.1 h with rfl | h
    · omega
    · have := len_flatMap_mem' f l x h; omega

theorem reg_bounds' (g : Gr) : (regionsL g.reach g.living).length ≤ g.lines.length ∧ ∀ r ∈ regionsL g.reach g.living, r.lines.length ≤ g.lines.length ∧ r.sides.length ≤ g.lines.length ∧ ∀ s ∈ r.sides, s.length ≤ g.lines.length := by
  have hg := (regionsL_good g.lv).1
  have hn : (seqL g.reach g.living).length ≤ g.lines.length := by rw [(seqL_perm g.lv).length_eq]; exact g.living_len
  unfold seqL at hn
  generalize regionsL g.reach g.living = regs at *
  have hfl : ∀ r : Reg, r.all.length = r.lines.length + r.sides.flatten.length := fun r => by unfold Reg.all; rw [List.length_append]
  have hid : ∀ l : List (List Nat), l.flatten = l.flatMap id := fun l => by simp [List.flatMap_id]
  refine ⟨Nat.le_trans (len_flatMap' Reg.all regs fun r hr he => ?_) hn, fun r hr => ?_⟩
  · have h0 := hfl r
    rw [he] at h0
    simp only [List.length_nil] at h0
    rcases hg r hr with ⟨_, h, _⟩ | ⟨_, _, h, h'⟩
    · have := List.length_pos_iff.2 h; omega
    · have h2 := List.length_pos_iff.2 h
      have h3 := len_flatMap' id r.sides h'
      rw [hid] at h0; omega
  · have h1 := len_flatMap_mem' Reg.all regs r hr
    have h0 := hfl r
    refine ⟨by omega, ?_, fun s hs => ?_⟩
    · rcases hg r hr with ⟨_, _, h⟩ | ⟨_, _, h, h'⟩
      · rw [h]; exact Nat.zero_le _
      · have h3 := len_flatMap' id r.sides h'
        rw [hid] at h0; omega
    · have h3 := len_flatMap_mem' id r.sides s hs
      rw [hid] at h0
      have : (id s).length = s.length := rfl
      omega

theorem SlOf.rowsN' {w : World} {v : Value} {rows : List (List Nat)} (h : SlOf w v (rows.map fun s => ints (nats s))) : ∃ a c, v = .slice a rows.length c ∧ rows.length ≤ c ∧ c ≤ 9223372036854775807 ∧ ∀ (k : Nat) (s : List Nat), rows[k]? = some s →
    ∃ b off al cl, a = some ⟨b, off, none⟩ ∧ w.cell? ⟨b, off + k, none⟩ = some (.slice al s.length cl) ∧ SlAt w (.slice al s.length cl) (ints (nats s)) := by
  obtain ⟨vs, ⟨a, c, hv, h1, h2, h3⟩, h4, h5⟩ := h
  rw [List.length_map] at h4
  refine ⟨a, c, by rw [hv, h4], by omega, h2, fun k s hk => ?_⟩
  have hkl : k < vs.length := by rw [h4]; exact (List.getElem?_eq_some_iff.1 hk).1
  obtain ⟨b, off, ha, hc⟩ := h3 (by intro e; subst e; simp at hkl)
  have e1 : vs[k]? = some vs[k] := List.getElem?_eq_getElem hkl
  have h6 := hc k _ e1
  have h7 := h5 k _ (ints (nats s)) e1 (by rw [List.getElem?_map, hk]; rfl)
  obtain ⟨al, cl, h8, _⟩ := id h7
  rw [ints_length, nats_length] at h8
  rw [h8] at h6 h7
  exact ⟨b, off, al, cl, ha, h6, h7⟩

/-- A region that is being built: its box p, its lines, its sides. -/
structure SideIn (wo : World) (p : Nat) (cf : Bool) (vl : Value) (ll : List Nat) (sides : List (List Nat)) (wr : World) (vs : Value) (us : List Value) : Prop where
  box : wr.heap[p]? = some (.cells #[.bool cf, vl, vs] 45 (0, 0))
  row : wr.ownsRow wo.heap.size 29 1 vs us.length us
  sides : SidesOwn wr wo.heap.size us sides
  lines : wr.ownsRow wo.heap.size 3 1 vl ll.length (ints (nats ll))
  below : Below wo.heap.size wo wr
  hp : wo.heap.size ≤ p

theorem side_step {wo wr wa w5 : World} {p : Nat} {cf : Bool} {vl : Value} {ll : List Nat} {sides : List (List Nat)} {vs vs' u : Value} {us : List Value} {s : List Nat} {o : Obj} (h : SideIn wo p cf vl ll sides wr vs us) (ha : Below wr.heap.size wr wa)
    (hu : wa.ownsRow wr.heap.size 3 1 u s.length (ints (nats s))) (h5 : (wa.alloc o).grownBy w5 vs.ownBlock) (hown5 : w5.ownsRow wo.heap.size 29 1 vs' (us.length + 1) (us ++ [u])) :
    SideIn wo p cf vl ll (sides ++ [s]) (w5.setCell ⟨p, 2, none⟩ vs') vs' (us ++ [u]) ∧ w5.heap[p]? = some (.cells #[.bool cf, vl, vs] 45 (0, 0)) := by
  have hb1 : Below wr.heap.size wr (wa.alloc o) := ha.alloc ha.size _
  have hrow1 := ownsRow_below h.row hb1
  have hlin1 := ownsRow_below h.lines hb1
  have hsd1 : SidesOwn (wa.alloc o) wo.heap.size us sides := ⟨h.sides.1, fun i u r hu hr => ownsRow_below (h.sides.2 i u r hu hr) hb1⟩
  have hu1 : (wa.alloc o).ownsRow wo.heap.size 3 1 u s.length (ints (nats s)) := ownsRow_base' (ownsRow_below hu ((Below.refl _ _).alloc (Nat.le_refl _) _)) h.below.size
  have hne : ∀ (u : Value) n xs, (wa.alloc o).ownsRow wo.heap.size 3 1 u n xs → u.ownBlock = none ∨ u.ownBlock ≠ vs.ownBlock := fun u n xs hu => own_types_ne hu hrow1 (by decide)
  have hpl := (Array.getElem?_eq_some_iff.1 h.box).1
  have hbox1 : (wa.alloc o).heap[p]? = some (.cells #[.bool cf, vl, vs] 45 (0, 0)) := (hb1.block p hpl).trans h.box
  have hbox5 : w5.heap[p]? = some (.cells #[.bool cf, vl, vs] 45 (0, 0)) := (h5.block p (Array.getElem?_eq_some_iff.1 hbox1).1 (fun e => ownsRow_ne hrow1 hbox1 (by decide) e.symm)).trans hbox1
  have hg := setCell_grownBy w5 p 2 vs'
  have hnp : ∀ (v : Value) e n xs, w5.ownsRow wo.heap.size e 1 v n xs → 45 ≠ e → v.ownBlock = none ∨ v.ownBlock ≠ some p := fun v e n xs hv ht => .inr (ownsRow_ne hv hbox5 ht)
  have hsd5 := (hsd1.kept h5 (fun u hu => by obtain ⟨r, hr⟩ := hu; exact hne _ _ _ hr)).snoc (hu1.kept h5 (hne _ _ _ hu1))
  have hlin5 := hlin1.kept h5 (hne _ _ _ hlin1)
  refine ⟨⟨?_, ?_, ?_, ?_, ?_, h.hp⟩, hbox5⟩
  · rw [heap_setCell_same hbox5]; rfl
  · have := hown5.kept hg (hnp _ _ _ _ hown5 (by decide))
    simpa using this
  · exact hsd5.kept hg (fun u hu => by obtain ⟨r, hr⟩ := hu; exact hnp _ _ _ _ hr (by decide))
  · exact hlin5.kept hg (hnp _ _ _ _ hlin5 (by decide))
  · exact ((h.below.trans (hb1.mono h.below.size)).grown h5 (by have := hb1.size; have := h.below.size; omega) (fun k e => (hrow1.lt k e).1)).setCell (p := ⟨p, 2, none⟩) h.hp _

/-- The row of the regions that are wanted. -/
def Want (w4 : World) (rs : List Reg) (v : Value) (wr : World) : Prop :=
  ∃ xs : List (Value × Reg), xs.map (·.2) = rs ∧ wr.ownsRow w4.heap.size 45 3 v xs.length (xs.flatMap fun x => regCells x.1) ∧ (∀ x ∈ xs, RegAt wr x.1 x.2) ∧ Below w4.heap.size w4 wr
theorem Want.below {w4 : World} {rs : List Reg} {v : Value} {wr wr' : World} (h : Want w4 rs v wr) (hb : Below wr.heap.size wr wr') : Want w4 rs v wr' := by
  obtain ⟨xs, h1, h2, h3, h4⟩ := h
  exact ⟨xs, h1, ownsRow_below h2 hb, fun x hx => (h3 x hx).below hb, h4.trans (hb.mono h4.size)⟩

theorem want_step {w4 wr w2 : World} {v v' vr : Value} {xs : List (Value × Reg)} {r : Reg} {o : Obj} (hrow : wr.ownsRow w4.heap.size 45 3 v xs.length (xs.flatMap fun x => regCells x.1)) (hx : ∀ x ∈ xs, RegAt wr x.1 x.2) (hb : Below w4.heap.size w4 wr)
    (hr : RegAt wr vr r) (hg : (wr.alloc o).grownBy w2 v.ownBlock) (hown : w2.ownsRow w4.heap.size 45 3 v' (xs.length + 1) ((xs.flatMap fun x => regCells x.1) ++ regCells vr)) :
    Want w4 (xs.map (·.2) ++ [r]) v' w2 := by
  have hrow1 : (wr.alloc o).ownsRow w4.heap.size 45 3 v xs.length (xs.flatMap fun x => regCells x.1) := ownsRow_below hrow ((Below.refl _ _).alloc (Nat.le_refl _) _)
  have hk : KeepsK wr w2 := (KeepsK.of_below ((Below.refl _ _).alloc (Nat.le_refl _) o)).trans (KeepsK.of_grown hg fun q o1 e hq hp => by
    rcases hrow1.2 with ⟨rfl, _⟩ | ⟨g, cap, cur, rfl, _, hgb, _⟩
    · cases e
    · obtain rfl : g = q := by simpa [Value.ownBlock] using e
      rw [hgb] at hq
      cases hq
      exact absurd rfl hp.1)
  refine ⟨xs ++ [(vr, r)], by simp, by simpa using hown, fun x hx' => ?_, (hb.alloc hb.size o).grown hg (by have := hb.size; simp; omega) (fun k e => (hrow1.lt k e).1)⟩
  rcases List.mem_append.1 hx' with h | h
  · exact (hx x h).keepsK hk
  · obtain rfl := List.mem_singleton.1 h
    exact hr.keepsK hk

theorem reg_small {g : Gr} (hck : g.check = 0) : ∀ r ∈ regionsL g.reach g.living, ∀ i ∈ r.all, i < g.lines.length := by
  intro r hr i hi
  have h1 : i ∈ seqL g.reach g.living := List.mem_flatMap.2 ⟨r, hr, hi⟩
  have h2 := (seqL_perm g.lv).mem_iff.1 h1
  have h3 := g.living_lt i h2
  have h4 : g.dim = g.lines.length := by unfold Gr.dim; rw [if_pos hck]
  omega

set_option maxRecDepth 100000 in
set_option maxHeartbeats 400000 in
theorem dead_early (vl ve : Value) (g : Gr) (at' : Nat) (w : World) (hg : GrIn w vl ve g) (_hat : at' < 256) (hearly : g.fine = false ∨ g.lines = []) :
    Calls Tryz.prog 4 #[.agg #[vl, ve], .int .u8 (at' : Nat)] w fun e w' => e = .returned (.bool true) ∧ Below w.heap.size w w' := by
  obtain ⟨al, cl, hvl⟩ : ∃ a c, vl = .slice a g.lines.length c := by obtain ⟨a, c, h, _⟩ := hg.lines; exact ⟨a, c, by simpa using h⟩
  obtain ⟨ae, ce, hve⟩ : ∃ a c, ve = .slice a g.edges.length c := by obtain ⟨a, c, h, _⟩ := hg.edges; exact ⟨a, c, by simpa using h⟩
  subst hvl hve
  have hb0 : Below w.heap.size w (w.alloc (.cells #[.slice al g.lines.length cl, .slice ae g.edges.length ce] 25)) := (Below.refl _ _).alloc (Nat.le_refl _) _
  obtain ⟨w0, hw0⟩ : ∃ w0, w0 = w.alloc (.cells #[.slice al g.lines.length cl, .slice ae g.edges.length ce] 25) := ⟨_, rfl⟩
  rw [← hw0] at hb0
  have hx0 : w0.cell? ⟨w.heap.size, 0, none⟩ = some (.slice al g.lines.length cl) := by rw [hw0]; simp [go_sem]
  have hx1 : w0.cell? ⟨w.heap.size, 1, none⟩ = some (.slice ae g.edges.length ce) := by rw [hw0]; simp [go_sem]
  have hxl := cell_lt hx0
  have HV := Lib.hid (valid_any _ _ g w0.drew (hg.below hb0.drew))
  have HB0 := Lib.hid hb0
  go_enter Tryz.func4, Tryz.ntmps4
  go_wp2_with (fail)
  rw [← hw0]
  obtain ⟨C, hC⟩ : ∃ C : World → Prop, C = fun w' => w'.cell? ⟨w.heap.size, 0, none⟩ = some (.slice al g.lines.length cl) ∧ w'.cell? ⟨w.heap.size, 1, none⟩ = some (.slice ae g.edges.length ce) := ⟨_, rfl⟩
  have hC0 : C w0.drew := by rw [hC]; exact ⟨hx0, hx1⟩
  have HCC : Hid (∀ w', Below w0.heap.size w0 w' → C w') := fun w' h => by rw [hC]; exact ⟨below_cell h hx0, below_cell h hx1⟩
  have hp0 : ∀ p : Cls C, p.w.cell? ⟨w.heap.size, 0, none⟩ = some (.slice al g.lines.length cl) := by subst hC; exact fun p => p.h.1
  have hp1 : ∀ p : Cls C, p.w.cell? ⟨w.heap.size, 1, none⟩ = some (.slice ae g.edges.length ce) := by subst hC; exact fun p => p.h.2
  have hpl : ∀ p : Cls C, w.heap.size < p.w.heap.size := fun p => cell_lt (hp0 p)
  have hne : Nonempty (Cls C) := ⟨⟨_, hC0⟩⟩
  clear hC hg hb0 hx0 hx1 hxl hw0
  refine wp_region_ord C 99 [(0, true), (1, false), (2, true), (3, true), (4, true), (5, true), (6, true), (7, true), (8, true), (9, true), (10, true), (11, true), (12, true), (13, true), (14, true), (15, true), (16, true), (17, true), (18, true), (19, true), (20, true), (21, true)] (by kernel_rfl) (by kernel_rfl) hC0 ?_
  refine wpOrd_pure_g rfl (fun _ _ _ _ h => h) (by rfl) (fun K hK => ?_); go_simp; refine hK _ ?_; clear hK K
  refine wpOrd_eff_g rfl (by rfl) (fun K hK => ?_)
  go_simp
  refine HV.out.mono ?_
  rintro e w1 ⟨rfl, hb1⟩
  have HB1 : Hid (Below w0.heap.size w0 w1) := (Below.refl _ _).drew.trans hb1
  refine hK _ _ (.inr (HCC.out _ HB1.out)) ?_
  clear hK K hb1 HV
  cases hfine : g.fine with
  | false =>
    iterate 2 (refine wpOrd_pure_g rfl (fun _ _ _ _ h => h) (by rfl) (fun K hK => ?_); go_simp; refine hK _ ?_; clear hK K)
    iterate 4 (refine wpOrd_skip_k rfl (fun _ _ _ _ h => h) (by rfl) (fun K hK => ?_); go_simp; refine hK _ ?_; clear hK K)
    iterate 2 (refine wpOrd_pure_g rfl (fun _ _ _ _ h => h) (by rfl) (fun K hK => ?_); go_simp; refine hK _ ?_; clear hK K)
    iterate 11 (refine wpOrd_skip_k rfl (fun _ _ _ _ h => h) (by rfl) (fun K hK => ?_); go_simp; refine hK _ ?_; clear hK K)
    (refine wpOrd_pure_g rfl (fun _ _ _ _ h => h) (by rfl) (fun K hK => ?_); go_simp; refine hK _ ?_; clear hK K)
    refine wpOrd_nil ?_
    go_wp2_with (fail)
    refine (awake_any w1).mono ?_
    rintro e w2 ⟨rfl, hb2⟩
    go_wp2
    go_ret
    exact ⟨rfl, (HB0.out.trans (HB1.out.mono HB0.out.size)).trans (hb2.mono (Nat.le_trans HB0.out.size HB1.out.size))⟩
  | true =>
    have hl0 : g.lines = [] := hearly.resolve_left (by rw [hfine]; simp)
    have hn0 : ((g.lines.length : Int) == 0) = true := by rw [hl0]; rfl
    clear hl0 hearly
    iterate 8 (refine wpOrd_pure_g rfl (fun _ _ _ _ h => h) (by rfl) (fun K hK => ?_); go_simp; refine hK _ ?_; clear hK K)
    iterate 11 (refine wpOrd_skip_k rfl (fun _ _ _ _ h => h) (by rfl) (fun K hK => ?_); go_simp; refine hK _ ?_; clear hK K)
    (refine wpOrd_pure_g rfl (fun _ _ _ _ h => h) (by rfl) (fun K hK => ?_); go_simp; refine hK _ ?_; clear hK K)
    refine wpOrd_nil ?_
    go_wp2_with (fail)
    refine (awake_any w1).mono ?_
    rintro e w2 ⟨rfl, hb2⟩
    go_wp2
    go_ret
    exact ⟨rfl, (HB0.out.trans (HB1.out.mono HB0.out.size)).trans (hb2.mono (Nat.le_trans HB0.out.size HB1.out.size))⟩

set_option maxRecDepth 100000 in
set_option maxHeartbeats 1000000 in
theorem dead_late (vl ve : Value) (g : Gr) (at' : Nat) (w : World) (hg : GrIn w vl ve g) (hat : at' < 256) (hfine : g.fine = true) (hlines : 0 < g.lines.length) :
    Calls Tryz.prog 4 #[.agg #[vl, ve], .int .u8 (at' : Nat)] w fun e w' => e = .returned (.bool true) ∧ Below w.heap.size w w' := by
  obtain ⟨al, cl, hvl⟩ : ∃ a c, vl = .slice a g.lines.length c := by obtain ⟨a, c, h, _⟩ := hg.lines; exact ⟨a, c, by simpa using h⟩
  obtain ⟨ae, ce, hve⟩ : ∃ a c, ve = .slice a g.edges.length c := by obtain ⟨a, c, h, _⟩ := hg.edges; exact ⟨a, c, by simpa using h⟩
  subst hvl hve
  obtain ⟨hbig, hck⟩ := Gr.fine_true hfine
  have HGR := Lib.hid (hg.few hbig)
  have hfew := HGR.out.few
  have hbg : g.lines.length ≤ 16 ∧ g.edges.length ≤ 60 := by
    unfold Gr.big at hbig
    simp at hbig
    omega
  obtain ⟨d, hd⟩ : ∃ d, d = at' % g.lines.length := ⟨_, rfl⟩
  have hdl : d < g.lines.length := by rw [hd]; exact Nat.mod_lt _ hlines
  obtain ⟨x, hx⟩ : ∃ x, g.lines[d]? = some x := ⟨_, List.getElem?_eq_getElem hdl⟩
  obtain ⟨b, off, hal, hcl⟩ : ∃ b off, al = some ⟨b, off, none⟩ ∧ w.cell? ⟨b, off + d * 35 + 34, none⟩ = some (.bool x.living) := by
    obtain ⟨a, c, h, _, _, h3⟩ := hg.lines
    obtain ⟨b, off, ha, hr⟩ := h3 (by intro e; have := congrArg List.length e; simp at this; rw [this] at hlines; simp at hlines)
    refine ⟨b, off, by rw [← ha]; exact (Value.slice.inj h).1, ?_⟩
    have hr1 := hr d x.cells (by rw [List.getElem?_map, hx]; rfl)
    have hxo := hg.okl x (List.mem_of_getElem? hx)
    refine hr1 34 _ ?_
    unfold Vtx.cells
    rw [List.getElem?_append_right (by simp [hxo.1])]
    simp [hxo.1]
  subst hal
  have hb0 : Below w.heap.size w (w.alloc (.cells #[.slice (some ⟨b, off, none⟩) g.lines.length cl, .slice ae g.edges.length ce] 25)) := (Below.refl _ _).alloc (Nat.le_refl _) _
  obtain ⟨w0, hw0⟩ : ∃ w0, w0 = w.alloc (.cells #[.slice (some ⟨b, off, none⟩) g.lines.length cl, .slice ae g.edges.length ce] 25) := ⟨_, rfl⟩
  rw [← hw0] at hb0
  have hx0 : w0.cell? ⟨w.heap.size, 0, none⟩ = some (.slice (some ⟨b, off, none⟩) g.lines.length cl) := by rw [hw0]; simp [go_sem]
  have hx1 : w0.cell? ⟨w.heap.size, 1, none⟩ = some (.slice ae g.edges.length ce) := by rw [hw0]; simp [go_sem]
  have hxc := below_cell hb0 hcl
  have HV := Lib.hid (valid_any _ _ g w0.drew (hg.below hb0.drew))
  have HB0 := Lib.hid hb0
  go_enter Tryz.func4, Tryz.ntmps4
  go_wp2_with (fail)
  rw [← hw0]
  obtain ⟨C, hC⟩ : ∃ C : World → Prop, C = fun w' => w'.cell? ⟨w.heap.size, 0, none⟩ = some (.slice (some ⟨b, off, none⟩) g.lines.length cl) ∧ w'.cell? ⟨w.heap.size, 1, none⟩ = some (.slice ae g.edges.length ce) ∧ w'.cell? ⟨b, off + d * 35 + 34, none⟩ = some (.bool x.living) := ⟨_, rfl⟩
  have hC0 : C w0.drew := by rw [hC]; exact ⟨hx0, hx1, hxc⟩
  have HCC : Hid (∀ w', Below w0.heap.size w0 w' → C w') := fun w' h => by rw [hC]; exact ⟨below_cell h hx0, below_cell h hx1, below_cell h hxc⟩
  have hp0 : ∀ p : Cls C, p.w.cell? ⟨w.heap.size, 0, none⟩ = some (.slice (some ⟨b, off, none⟩) g.lines.length cl) := by subst hC; exact fun p => p.h.1
  have hp1 : ∀ p : Cls C, p.w.cell? ⟨w.heap.size, 1, none⟩ = some (.slice ae g.edges.length ce) := by subst hC; exact fun p => p.h.2.1
  have hp2 : ∀ p : Cls C, p.w.cell? ⟨b, off + d * 35 + 34, none⟩ = some (.bool x.living) := by subst hC; exact fun p => p.h.2.2
  have hpl : ∀ p : Cls C, w.heap.size < p.w.heap.size := fun p => cell_lt (hp0 p)
  have hpb : ∀ p : Cls C, b < p.w.heap.size := fun p => cell_lt (hp2 p)
  have hne : Nonempty (Cls C) := ⟨⟨_, hC0⟩⟩
  have HX := Lib.hid (And.intro hx0 (And.intro hx1 hx))
  have hn0 : ((g.lines.length : Int) == 0) = false := by rw [beq_eq_false_iff_ne]; omega
  have hn1 : ¬ (g.lines.length : Int) = 0 := by omega
  have hrem : (at' : Int) % (g.lines.length : Int) = (d : Int) := by rw [hd]; rfl
  have hrem2 : (at' : Int).tmod (g.lines.length : Int) = (d : Int) := by rw [hd]; rfl
  have hnil : ¬ g.lines = [] := fun e => by rw [e] at hlines; simp at hlines
  clear hd
  have hw5 : IntKind.i64.wrap (at' : Int) = (at' : Int) := Go.Ab.wrap64_id (by omega) (by omega)
  have hw6 : IntKind.i64.wrap (d : Int) = (d : Int) := Go.Ab.wrap64_id (by omega) (by omega)
  have hd0 : (0 : Int) ≤ (d : Int) := by omega
  have hd1 : (d : Int) < (g.lines.length : Int) := by omega
  clear hC hg hb0 hx0 hx1 hw0 hxc hcl hx
  refine wp_region_ord C 99 [(0, true), (1, false), (2, true), (3, true), (4, true), (5, true), (6, true), (7, true), (8, true), (9, true), (10, true), (11, true), (12, true), (13, true), (14, true), (15, true), (16, true), (17, true), (18, true), (19, true), (20, true), (21, true)] (by kernel_rfl) (by kernel_rfl) hC0 ?_
  refine wpOrd_pure_g rfl (fun _ _ _ _ h => h) (by rfl) (fun K hK => ?_); go_simp; refine hK _ ?_; clear hK K
  refine wpOrd_eff_g rfl (by rfl) (fun K hK => ?_)
  go_simp
  refine HV.out.mono ?_
  rintro e w1 ⟨rfl, hb1⟩
  rw [hfine]
  have HB1 : Hid (Below w0.heap.size w0 w1) := (Below.refl _ _).drew.trans hb1
  refine hK _ _ (.inr (HCC.out _ HB1.out)) ?_
  clear hK K hb1 HV
  iterate 8 (refine wpOrd_pure_g rfl (fun _ _ _ _ h => h) (by rfl) (fun K hK => ?_); go_simp; refine hK _ ?_; clear hK K)
  iterate 12 (refine wpOrd_pure_g rfl (fun _ _ _ _ h => h) (by rfl) (fun K hK => ?_); go_simp; refine hK _ ?_; clear hK K)
  refine wpOrd_nil ?_
  cases hliv : x.living with
  | true =>
    go_wp2_with (fail)
    refine (awake_any w1).mono ?_
    rintro e w2 ⟨rfl, hb2⟩
    go_wp2
    go_ret
    exact ⟨rfl, (HB0.out.trans (HB1.out.mono HB0.out.size)).trans (hb2.mono (Nat.le_trans HB0.out.size HB1.out.size))⟩
  | false =>
    have z0 := below_cell HB1.out HX.out.1
    have z1 := below_cell HB1.out HX.out.2.1
    have zl := cell_lt z0
    have HDD : Hid (∀ y, g.lines[d]? = some y → y.living = false) := fun y hy => by rw [HX.out.2.2] at hy; obtain rfl := Option.some.inj hy; exact hliv
    have HBW : Hid (Below w.heap.size w w1) := HB0.out.trans (HB1.out.mono HB0.out.size)
    clear hp0 hp1 hp2 hpl hpb hne hC0 HCC HX HB0 HB1
    go_wp2_with (fail)
    obtain ⟨wd, hwd⟩ : ∃ wd, wd = w1.alloc (.cells #[.int .i64 d] 3) := ⟨_, rfl⟩
    rw [← hwd]
    obtain ⟨pd, hpd⟩ : ∃ pd, pd = w1.heap.size := ⟨_, rfl⟩
    rw [← hpd]
    have q0 : wd.cell? ⟨w.heap.size, 0, none⟩ = some (.slice (some ⟨b, off, none⟩) g.lines.length cl) := by rw [hwd]; exact alloc_cell z0 _
    have q1 : wd.cell? ⟨w.heap.size, 1, none⟩ = some (.slice ae g.edges.length ce) := by rw [hwd]; exact alloc_cell z1 _
    have q2 : wd.cell? ⟨pd, 0, none⟩ = some (.int .i64 d) := by rw [hwd, hpd]; simp [go_sem]
    have HBD : Hid (Below w.heap.size w wd) := by rw [hwd]; exact HBW.out.alloc HBW.out.size _
    have HPD : Hid (w.heap.size ≤ pd) := by rw [hpd]; exact HBW.out.size
    obtain ⟨C, hC⟩ : ∃ C : World → Prop, C = fun w' => w'.cell? ⟨w.heap.size, 0, none⟩ = some (.slice (some ⟨b, off, none⟩) g.lines.length cl) ∧ w'.cell? ⟨w.heap.size, 1, none⟩ = some (.slice ae g.edges.length ce) ∧ w'.cell? ⟨pd, 0, none⟩ = some (.int .i64 d) := ⟨_, rfl⟩
    have hC0 : C wd.drew := by rw [hC]; exact ⟨q0, q1, q2⟩
    have HCC : Hid (∀ w', Below wd.heap.size wd w' → C w') := fun w' h => by rw [hC]; exact ⟨below_cell h q0, below_cell h q1, below_cell h q2⟩
    have hp0 : ∀ p : Cls C, p.w.cell? ⟨w.heap.size, 0, none⟩ = some (.slice (some ⟨b, off, none⟩) g.lines.length cl) := by subst hC; exact fun p => p.h.1
    have hp1 : ∀ p : Cls C, p.w.cell? ⟨w.heap.size, 1, none⟩ = some (.slice ae g.edges.length ce) := by subst hC; exact fun p => p.h.2.1
    have hp2 : ∀ p : Cls C, p.w.cell? ⟨pd, 0, none⟩ = some (.int .i64 d) := by subst hC; exact fun p => p.h.2.2
    have hpl : ∀ p : Cls C, w.heap.size < p.w.heap.size := fun p => cell_lt (hp0 p)
    have hpl2 : ∀ p : Cls C, pd < p.w.heap.size := fun p => cell_lt (hp2 p)
    have hne : Nonempty (Cls C) := ⟨⟨_, hC0⟩⟩
    have HQ2 := Lib.hid q2
    have HGA : Hid (∀ w', Below wd.heap.size wd w' → GrAt w' (.slice (some ⟨b, off, none⟩) g.lines.length cl) (.slice ae g.edges.length ce) g) := fun w' h => HGR.out.below (HBD.out.trans (h.mono HBD.out.size))
    clear hC q0 q1 q2 hwd hpd z0 z1 zl
    refine wp_region_ord C 99 [(0, true), (2, true), (3, true), (1, false), (4, false), (5, false), (6, true), (7, true)] (by kernel_rfl) (by kernel_rfl) hC0 ?_
    iterate 3 (refine wpOrd_pure rfl (fun _ _ _ _ h => h) (by rfl) (fun K hK => ?_); go_simp; refine hK _ ?_; clear hK K)
    clear hp0 hp1 hp2 hpl hpl2
    have HW0 : Hid (Below wd.heap.size wd wd.drew) := (Below.refl _ _).drew
    refine wpOrd_eff rfl (by rfl) (fun K hK => ?_)
    go_simp
    refine (Regions_any _ _ g _ (HGA.out _ HW0.out)).mono ?_
    rintro e w2 ⟨va, rfl, hra, hb⟩
    have HW2 : Hid (Below wd.heap.size wd w2) := HW0.out.trans (hb.mono HW0.out.size)
    refine hK _ _ (.inr (HCC.out _ HW2.out)) ?_
    clear hK K hb
    refine wpOrd_eff rfl (by rfl) (fun K hK => ?_)
    go_simp
    refine (without_any _ _ g d w2 (HGA.out _ HW2.out) hdl hck hbg.2).mono ?_
    rintro e w3 ⟨vl', ve', rfl, hgw, hb⟩
    have HW3 : Hid (Below wd.heap.size wd w3) := HW2.out.trans (hb.mono HW2.out.size)
    have hra3 := hra.below hb
    refine hK _ _ (.inr (HCC.out _ HW3.out)) ?_
    clear hK K hb hra
    refine wpOrd_eff rfl (by rfl) (fun K hK => ?_)
    go_simp
    refine (Regions_any _ _ (g.without d) w3 hgw).mono ?_
    rintro e w4 ⟨vb, rfl, hrb, hb⟩
    have HW4 : Hid (Below wd.heap.size wd w4) := HW3.out.trans (hb.mono HW3.out.size)
    have hra4 := hra3.below hb
    refine hK _ _ (.inr (HCC.out _ HW4.out)) ?_
    clear hK K hb hra3 hgw
    iterate 2 (refine wpOrd_pure rfl (fun _ _ _ _ h => h) (by rfl) (fun K hK => ?_); go_simp; refine hK _ ?_; clear hK K)
    refine wpOrd_nil ?_
    obtain ⟨regs, hregs⟩ : ∃ regs, regs = regionsL g.reach g.living := ⟨_, rfl⟩
    rw [← hregs] at hra4
    rw [dead_plain hck hdl HDD.out, ← hregs] at hrb
    have HRA := Lib.hid hra4
    have HRB := Lib.hid hrb
    have HD4 : Hid (w4.cell? ⟨pd, 0, none⟩ = some (.int .i64 d)) := below_cell HW4.out HQ2.out
    have HB4 : Hid (Below w.heap.size w w4) := HBD.out.trans (HW4.out.mono HBD.out.size)
    have HRG := Lib.hid hregs
    obtain ⟨csa, ⟨aa, ca, hva, ha1, ha2, ha3⟩, hcl1, hcl2⟩ := hra4
    rw [hcl1] at hva ha1
    subst hva
    obtain ⟨ab, nb, cb, hvb⟩ := hrb.form
    subst hvb
    clear hrb hregs HW0 HW2 HW3 HW4 HGA HGR HCC HQ2 HDD hC0 hne HBW HBD
    go_wp2_with (fail)
    have HSM : Hid (∀ r ∈ regs, ∀ i ∈ r.all, i ≤ 1000000) := fun r hr i hi => by
      rw [HRG.out] at hr
      have := reg_small hck r hr i hi
      omega
    have HRB2 : Hid (regs.length ≤ 16 ∧ ∀ r ∈ regs, r.lines.length ≤ 16 ∧ r.sides.length ≤ 16 ∧ ∀ s ∈ r.sides, s.length ≤ 16) := by
      have h := reg_bounds' g
      rw [← HRG.out] at h
      exact ⟨by have := h.1; omega, fun r hr => ⟨by have := (h.2 r hr).1; omega, by have := (h.2 r hr).2.1; omega, fun s hs => by have := (h.2 r hr).2.2 s hs; omega⟩⟩
    have HCL := Lib.hid (And.intro hcl1 (And.intro hcl2 ha3))
    clear hcl1 hcl2 ha3
    have hrl := HRB2.out.1
    go_loopg [9, 53] (regs.length) (fun gk vw v wr => ∃ k : Nat, gk + k = regs.length ∧ v = .int .i64 (k : Nat) ∧ Want w4 ((regs.take k).map (mapR (mv d))) vw wr)
    case atStart => exact ⟨0, rfl, rfl, [], rfl, World.ownsRow_nil _ _ _ _, (fun x hx => by cases hx), Below.refl _ _⟩
    case round =>
      obtain ⟨k, hgk, rfl, hW⟩ := hrel
      have hB4r : Below w4.heap.size w4 wr := hW.elim fun _ h => h.2.2.2
      by_cases hlt : k < regs.length
      · have hr := List.getElem?_eq_getElem hlt
        have hrm := List.getElem_mem hlt
        have hc := List.getElem?_eq_getElem (show k < csa.length by rw [HCL.out.1]; exact hlt)
        obtain ⟨vl0, vs0, hcc, hsl, hso⟩ := HCL.out.2.1 k _ _ hc hr
        obtain ⟨ba, oa, rfl, hrange⟩ := HCL.out.2.2 (by intro e; have := HCL.out.1; rw [e] at this; simp at this; omega)
        have hrk := hrange k _ hc
        rw [hcc] at hrk
        clear hrange hc hcc
        generalize regs[k] = r at hr hrm hrk hsl hso
        have e0 := below_cell hB4r (hrk 0 _ rfl)
        have e1 := below_cell hB4r (hrk 1 _ rfl)
        have e2 := below_cell hB4r (hrk 2 _ rfl)
        have el := cell_lt e0
        rw [Nat.add_zero] at e0
        obtain ⟨al0, cl0, hvl0⟩ : ∃ a c, vl0 = .slice a r.lines.length c := by obtain ⟨a, c, h, _⟩ := hsl; exact ⟨a, c, by rw [h, ints_length, nats_length]⟩
        subst hvl0
        obtain ⟨as0, cs0, hvs0, _, _, hside⟩ := hso.rowsN'
        subst hvs0
        have HSD := Lib.hid hside
        have HSL := Lib.hid hsl
        have HWW := Lib.hid hW
        have HB4R := Lib.hid hB4r
        have HRK := Lib.hid (And.intro hr (And.intro hrm hgk))
        generalize hcf : r.conflict = cf at e0
        have HCF := Lib.hid hcf
        clear hcf
        clear hside hso hsl hrk hr hrm hW hB4r
        go_upto_region 10 with (fail)
        obtain ⟨wx, hwx⟩ : ∃ wx, wx = wr.alloc (.cells #[.bool cf, .slice al0 r.lines.length cl0, .slice as0 r.sides.length cs0] 45) := ⟨_, rfl⟩
        rw [← hwx]
        have f0 : wx.cell? ⟨wr.heap.size, 0, none⟩ = some (.bool cf) := by rw [hwx]; simp [go_sem]
        have f1 : wx.cell? ⟨wr.heap.size, 1, none⟩ = some (.slice al0 r.lines.length cl0) := by rw [hwx]; simp [go_sem]
        have f2 : wx.cell? ⟨wr.heap.size, 2, none⟩ = some (.slice as0 r.sides.length cs0) := by rw [hwx]; simp [go_sem]
        have HBX : Hid (Below wr.heap.size wr wx) := by rw [hwx]; exact (Below.refl _ _).alloc (Nat.le_refl _) _
        clear hwx e0 e1 e2 el
        have HF2 := Lib.hid f2
        have HF0 := Lib.hid (And.intro f0 f1)
        have HDN : Hid (r.lines.length ≤ 16 ∧ r.sides.length ≤ 16 ∧ ∀ s ∈ r.sides, s.length ≤ 16) := HRB2.out.2 r HRK.out.2.1
        have HDL : Hid (∀ i ∈ r.all, i ≤ 1000000) := HSM.out r HRK.out.2.1
        have HB4X : Hid (Below w4.heap.size w4 wx) := HB4R.out.trans (HBX.out.mono HB4R.out.size)
        have HCALL : Hid (∀ w', Below wx.heap.size wx w' → Calls Tryz.prog 19 #[.slice al0 r.lines.length cl0, .pointer (some ⟨pd, 0, none⟩)] w' fun e w'' => ∃ u, e = .returned u ∧ w''.ownsRow w'.heap.size 3 1 u (r.lines.map (mv d)).length (ints (nats (r.lines.map (mv d)))) ∧ Below w'.heap.size w' w'') := fun w' hw' => by
          have h4 : Below w4.heap.size w4 w' := HB4X.out.trans (hw'.mono HB4X.out.size)
          exact dead1_any (.slice al0 r.lines.length cl0) r.lines d pd w' (HSL.out.below h4) (by have := HDN.out.1; omega) (fun i hi => HDL.out i (List.mem_append_left _ hi)) (below_cell h4 HD4.out) (by omega)
        clear f0 f1 f2
        go_cut [12] (fun s12 w' => ∃ (p : Nat) (al1 : Option Addr) (cl1 : Nat), s12 = .pointer (some ⟨p, 0, none⟩) ∧ w'.heap[p]? = some (.cells #[.bool cf, .slice al1 r.lines.length cl1, .slice none 0 0] 45 (0, 0)) ∧ wx.heap.size ≤ p ∧ w'.ownsRow wr.heap.size 3 1 (.slice al1 r.lines.length cl1) r.lines.length (ints (nats (r.lines.map (mv d)))) ∧ Below wx.heap.size wx w')
        case first =>
          obtain ⟨C, hC⟩ : ∃ C : World → Prop, C = fun w' => w'.cell? ⟨wr.heap.size, 0, none⟩ = some (.bool cf) ∧ w'.cell? ⟨wr.heap.size, 1, none⟩ = some (.slice al0 r.lines.length cl0) := ⟨_, rfl⟩
          have hC0 : C wx.drew := by rw [hC]; exact HF0.out
          have HCC : Hid (∀ w', Below wx.heap.size wx w' → C w') := fun w' h => by rw [hC]; exact ⟨below_cell h HF0.out.1, below_cell h HF0.out.2⟩
          have hp0 : ∀ p : Cls C, p.w.cell? ⟨wr.heap.size, 0, none⟩ = some (.bool cf) := by subst hC; exact fun p => p.h.1
          have hp1 : ∀ p : Cls C, p.w.cell? ⟨wr.heap.size, 1, none⟩ = some (.slice al0 r.lines.length cl0) := by subst hC; exact fun p => p.h.2
          have hpl : ∀ p : Cls C, wr.heap.size < p.w.heap.size := fun p => cell_lt (hp0 p)
          have hne : Nonempty (Cls C) := ⟨⟨_, hC0⟩⟩
          have hwxr : Hid (wr.heap.size ≤ wx.heap.size) := HBX.out.size
          clear hC
          refine wp_region_E C 8 (by kernel_rfl) ?_
          refine wpE_pure (i := 0) rfl (by kernel_rfl) (fun _ _ _ _ h => h) rfl hC0 (fun K hK => ?_); go_simp; refine hK _ ?_; clear hK K
          refine wpE_pure (i := 1) rfl (by kernel_rfl) (fun _ _ _ _ h => h) rfl hC0 (fun K hK => ?_); go_simp; refine hK _ ?_; clear hK K
          refine wpE_pure (i := 2) rfl (by kernel_rfl) (fun _ _ _ _ h => h) rfl hC0 (fun K hK => ?_); go_simp; refine hK _ ?_; clear hK K
          refine wpE_pure (i := 3) rfl (by kernel_rfl) (fun _ _ _ _ h => h) rfl hC0 (fun K hK => ?_); go_simp; refine hK _ ?_; clear hK K
          refine wpE_pure (i := 4) rfl (by kernel_rfl) (fun _ _ _ _ h => h) rfl hC0 (fun K hK => ?_); go_simp; refine hK _ ?_; clear hK K
          clear hp0 hp1 hpl
          refine wpE_two (i := 5) (j := 7) rfl rfl (by kernel_rfl) rfl rfl (fun K hK => ?_) (fun K hK => ?_)
          · go_simp
            refine (HCALL.out wx.drew (Below.refl _ _).drew).mono ?_
            rintro e wa ⟨vl1, rfl, hown1, hba⟩
            obtain ⟨al1, cl1, hvl1⟩ := ownsRow_form hown1
            rw [List.length_map] at hvl1 hown1
            subst hvl1
            have hBA : Below wx.heap.size wx wa := (Below.refl _ _).drew.trans hba
            have HBA := Lib.hid hBA
            have HO1 := Lib.hid hown1
            have hCA := HCC.out _ hBA
            refine hK _ _ (.inr hCA) ?_
            clear hK K hba hown1 hBA
            refine wpE_pure (i := 6) rfl (by kernel_rfl) (fun _ _ _ _ h => h) rfl hCA (fun K hK => ?_); go_simp; refine hK _ ?_; clear hK K
            refine wpE_one (i := 7) rfl (by kernel_rfl) rfl (fun K hK => ?_)
            go_simp
            refine hK _ _ (.inr (HCC.out _ (HBA.out.alloc HBA.out.size _))) ?_
            clear hK K
            refine wpE_one (i := 8) rfl (by kernel_rfl) rfl (fun K hK => ?_)
            go_simp
            refine hK _ _ (.inl rfl) ?_
            clear hK K
            refine wpE_done (by kernel_rfl) ?_
            go_wp2_with fail
            go_meet
            have h1 := HBA.out.size
            have h2 := hwxr.out
            exact ⟨wa.heap.size, al1, cl1, rfl, heap_alloc_at rfl, h1, ownsRow_base' (ownsRow_below HO1.out ((Below.refl _ _).alloc (Nat.le_refl _) _)) (by show wr.heap.size ≤ wx.heap.size; omega), HBA.out.alloc h1 _⟩
          · go_simp
            have hBZ : Below wx.heap.size wx (wx.alloc (.cells #[.bool false, .slice none 0 0, .slice none 0 0] 45)).drew := ((Below.refl _ _).alloc (Nat.le_refl _) _).drew
            have HBZ := Lib.hid hBZ
            refine hK _ _ (.inr (HCC.out _ hBZ)) ?_
            clear hK K hBZ
            refine wpE_one (i := 5) rfl (by kernel_rfl) rfl (fun K hK => ?_)
            go_simp
            refine (HCALL.out _ HBZ.out).mono ?_
            rintro e wa ⟨vl1, rfl, hown1, hba⟩
            obtain ⟨al1, cl1, hvl1⟩ := ownsRow_form hown1
            rw [List.length_map] at hvl1 hown1
            subst hvl1
            have hBA : Below wx.heap.size wx wa := HBZ.out.trans (hba.mono HBZ.out.size)
            have HBA := Lib.hid hBA
            have HO1 := Lib.hid hown1
            have hCA := HCC.out _ hBA
            have hX2 : wa.heap[wx.heap.size]? = some (.cells #[.bool false, .slice none 0 0, .slice none 0 0] 45 (0, 0)) := heap_below hba (heap_alloc_new wx _)
            refine hK _ _ (.inr hCA) ?_
            clear hK K hba hown1 hBA
            refine wpE_pure (i := 6) rfl (by kernel_rfl) (fun _ _ _ _ h => h) rfl hCA (fun K hK => ?_); go_simp; refine hK _ ?_; clear hK K
            have g0 : wa.cell? ⟨wx.heap.size, 0, none⟩ = some (.bool false) := cell_of_heap hX2
            have g1 : wa.cell? ⟨wx.heap.size, 1, none⟩ = some (.slice none 0 0) := cell_of_heap hX2
            have g2 : wa.cell? ⟨wx.heap.size, 2, none⟩ = some (.slice none 0 0) := cell_of_heap hX2
            have k0 : wa.frozen? ⟨wx.heap.size, 0, none⟩ = false := frozen_of_heap hX2
            have k1 : wa.frozen? ⟨wx.heap.size, 1, none⟩ = false := frozen_of_heap hX2
            have k2 : wa.frozen? ⟨wx.heap.size, 2, none⟩ = false := frozen_of_heap hX2
            have HX2 := Lib.hid hX2
            clear hX2
            refine wpE_one (i := 8) rfl (by kernel_rfl) rfl (fun K hK => ?_)
            go_simp
            refine hK _ _ (.inl rfl) ?_
            clear hK K
            refine wpE_done (by kernel_rfl) ?_
            go_wp2_with fail
            go_meet
            have h2 := hwxr.out
            have hlt1 : ∀ q, (Value.slice al1 r.lines.length cl1).ownBlock = some q → wx.heap.size < q := fun q hq => by have h3 := (HO1.out.lt q hq).1; simp at h3; omega
            refine ⟨wx.heap.size, al1, cl1, rfl, ?_, Nat.le_refl _, ?_, ?_⟩
            · rw [heap_setCell_same (heap_setCell_same (heap_setCell_same HX2.out _) _) _]; rfl
            · refine ownsRow_base' (((HO1.out.kept (setCell_grownBy _ wx.heap.size 0 _) (.inr fun e => ?_)).kept (setCell_grownBy _ wx.heap.size 1 _) (.inr fun e => ?_)).kept (setCell_grownBy _ wx.heap.size 2 _) (.inr fun e => ?_)) (by simp; omega)
              all_goals (have := hlt1 _ e; omega)
            · exact ((HBA.out.setCell (Nat.le_refl _) _).setCell (Nat.le_refl _) _).setCell (Nat.le_refl _) _
        case rest =>
          obtain ⟨p, al1, cl1, rfl, hph, hpx, hown1, hbc⟩ := hcut
          have HPH := Lib.hid hph
          have HO1 := Lib.hid hown1
          have HBC := Lib.hid hbc
          have f2 := below_cell hbc HF2.out
          have fl := cell_lt f2
          clear hph hown1 hbc
          obtain ⟨wo, rfl⟩ : ∃ wo, wo = wr := ⟨_, rfl⟩
          obtain ⟨gko, rfl⟩ : ∃ x, x = gk := ⟨_, rfl⟩
          go_wp2_with (fail)
          have HWO : Hid (wo.heap.size ≤ p) := by have h1 := HBX.out.size; show _ ≤ _; omega
          have HBO : Hid (Below wo.heap.size wo wc) := HBX.out.trans (HBC.out.mono HBX.out.size)
          obtain ⟨ll, hll⟩ : ∃ ll, ll = r.lines.map (mv d) := ⟨_, rfl⟩
          have hlen : r.lines.length = ll.length := by rw [hll, List.length_map]
          have HO2 : Hid (wc.ownsRow wo.heap.size 3 1 (.slice al1 r.lines.length cl1) ll.length (ints (nats ll))) := by
            show World.ownsRow _ _ _ _ _ _ _
            rw [← hlen, hll]; exact HO1.out
          have HLL := Lib.hid hll
          clear hll hlen HO1 f2 fl
          go_loopg [67] (r.sides.length) (fun gk v wr => ∃ (m : Nat) (ass css : _) (us : List Value), gk + m = r.sides.length ∧ v = .int .i64 (m : Nat) ∧ SideIn wo p cf (.slice al1 r.lines.length cl1) ll ((r.sides.take m).map fun s => s.map (mv d)) wr (.slice ass us.length css) us)
          case atStart =>
            exact ⟨0, none, 0, [], rfl, rfl, HPH.out, World.ownsRow_nil _ _ _ _, ⟨rfl, fun i u r hu => by cases hu⟩, HO2.out, HBO.out, HWO.out⟩
          case round =>
            obtain ⟨m, ass, css, us, hgm, rfl, hS⟩ := hrel
            have HS := Lib.hid hS
            have husl : us.length ≤ 16 := by
              have h1 := hS.sides.1
              rw [List.length_map, List.length_take] at h1
              have := HDN.out.2.1
              omega
            have hB4 : Hid (Below w4.heap.size w4 wr) := HB4R.out.trans (hS.below.mono HB4R.out.size)
            by_cases hlt : m < r.sides.length
            · have hs := List.getElem?_eq_getElem hlt
              have hsm := List.getElem_mem hlt
              generalize r.sides[m] = s at hs hsm
              obtain ⟨bs, os, als, cls, has0, hcs, hsls⟩ := HSD.out m s hs
              subst has0
              have hcs' := below_cell hB4.out hcs
              have hcsl := cell_lt hcs'
              have hbp : wr.cell? ⟨p, 2, none⟩ = some (.slice ass us.length css) := cell_of_heap hS.box
              have hbl := cell_lt hbp
              have HNX := Lib.hid (And.intro hs hgm)
              have HCL2 : Hid (Calls Tryz.prog 19 #[.slice als s.length cls, .pointer (some ⟨pd, 0, none⟩)] wr.drew fun e w'' => ∃ u, e = .returned u ∧ w''.ownsRow wr.drew.heap.size 3 1 u (s.map (mv d)).length (ints (nats (s.map (mv d)))) ∧ Below wr.drew.heap.size wr.drew w'') :=
                dead1_any (.slice als s.length cls) s d pd wr.drew (hsls.below hB4.out.drew) (by have := HDN.out.2.2 s hsm; omega) (fun i hi => HDL.out i (List.mem_append_right _ (List.mem_flatten.2 ⟨s, hsm, hi⟩))) (below_cell hB4.out.drew HD4.out) (by omega)
              clear hs hsm hcs hsls hS
              go_upto_region 14 with (fail)
              obtain ⟨C, hC⟩ : ∃ C : World → Prop, C = fun w' => w'.cell? ⟨p, 2, none⟩ = some (.slice ass us.length css) := ⟨_, rfl⟩
              have hC0 : C wr.drew := by rw [hC]; exact hbp
              have HCC : Hid (∀ w', w'.cell? ⟨p, 2, none⟩ = some (.slice ass us.length css) → C w') := fun w' h => by rw [hC]; exact h
              have hp0 : ∀ q : Cls C, q.w.cell? ⟨p, 2, none⟩ = some (.slice ass us.length css) := by subst hC; exact fun q => q.h
              have hpl : ∀ q : Cls C, p < q.w.heap.size := fun q => cell_lt (hp0 q)
              have hne : Nonempty (Cls C) := ⟨⟨_, hC0⟩⟩
              have HBP := Lib.hid hbp
              clear hC hcs' hcsl hbp hbl
              refine wp_region_ord C 8 [(0, true), (1, true), (2, true), (3, true), (4, false), (5, false), (6, false), (7, true), (8, false)] (by kernel_rfl) (by kernel_rfl) hC0 ?_
              iterate 4 (refine wpOrd_pure rfl (fun _ _ _ _ h => h) (by rfl) (fun K hK => ?_); go_simp; refine hK _ ?_; clear hK K)
              clear hp0 hpl
              refine wpOrd_eff rfl (by rfl) (fun K hK => ?_)
              go_simp
              refine HCL2.out.mono ?_
              rintro e wa ⟨u, rfl, hownu, hba⟩
              have hba2 : Below wr.heap.size wr wa := (Below.refl _ _).drew.trans hba
              have HBA := Lib.hid hba2
              have HOU : Hid (wa.ownsRow wr.heap.size 3 1 u (s.map (mv d)).length (ints (nats (s.map (mv d))))) := hownu
              refine hK _ _ (.inr (HCC.out _ (below_cell hba2 HBP.out))) ?_
              clear hK K hba hownu hba2
              obtain ⟨au, cu, hu⟩ := ownsRow_form HOU.out
              rw [List.length_map] at hu
              subst hu
              refine wpOrd_eff rfl (by rfl) (fun K hK => ?_)
              go_simp
              refine hK _ _ (.inr (HCC.out _ (alloc_cell (below_cell HBA.out HBP.out) _))) ?_
              clear hK K
              obtain ⟨o, ho⟩ : ∃ o : Obj, o = .cells #[.slice au s.length cu] 29 := ⟨_, rfl⟩
              rw [← ho]
              have hown := ownsRow_below HS.out.row (HBA.out.alloc HBA.out.size o)
              have hsrc : SrcAt (wa.alloc o) (.slice (some ⟨wa.heap.size, 0, none⟩) 1 1) 1 1 [.slice au s.length cu] := by
                refine SrcAt.one _ _ _ [.slice au s.length cu] fun j u hu => ?_
                rw [cell_of_heap (heap_alloc_at rfl |>.trans (by rw [ho]))]
                simpa using hu
              have hbs : wo.heap.size ≤ (wa.alloc o).heap.size := by have h1 := HS.out.below.size; have h2 := HBA.out.size; simp; omega
              refine wpOrd_eff rfl (by rfl) (fun K hK => ?_)
              refine wp_app _ _ _ (by rfl) wo.heap.size 29 (.slice none 0 0) 1 24 Tryz.underlying43 info_ints rfl (by decide) _ us.length us (by rfl) hown _ 1 [.slice au s.length cu] (by rfl) hsrc (by intro u hu; simp at hu; subst hu; rfl) (by omega) (by omega) hbs ?_
              intro a' c' v4 hown4 hgrow4 hat4
              obtain ⟨hst1, hst2⟩ := side_step HS.out HBA.out HOU.out hgrow4 hown4
              have c4 : v4.cell? ⟨p, 2, none⟩ = some (.slice ass us.length css) := cell_of_heap hst2
              have f4 : v4.frozen? ⟨p, 2, none⟩ = false := frozen_of_heap hst2
              have l4 := cell_lt c4
              refine hK _ _ (.inr (HCC.out _ c4)) ?_
              clear hK K hown hsrc hown4 hgrow4 hat4 ho hst2
              have HST := Lib.hid hst1
              clear hst1
              refine wpOrd_pure rfl (fun _ _ _ _ h => h) (by rfl) (fun K hK => ?_); go_simp; refine hK _ ?_; clear hK K
              refine wpOrd_eff rfl (by rfl) (fun K hK => ?_)
              go_simp
              refine hK _ _ (.inl rfl) ?_
              clear hK K
              refine wpOrd_nil ?_
              go_wp2_with (fail)
              go_roundg (gk - 1)
              case measure => have := HNX.out.2; omega
              case rel =>
                have h1 := HNX.out.2
                refine ⟨m + 1, a', c', us ++ [.slice au s.length cu], by omega, by go_num, ?_⟩
                have h2 := HST.out
                rw [List.take_add_one, HNX.out.1]
                simpa using h2
            · have hml : m = r.sides.length := by omega
              subst hml
              rw [List.take_length] at HS hS
              have g0 : wr.cell? ⟨p, 0, none⟩ = some (.bool cf) := cell_of_heap hS.box
              have g1 : wr.cell? ⟨p, 1, none⟩ = some (.slice al1 r.lines.length cl1) := cell_of_heap hS.box
              have g2 : wr.cell? ⟨p, 2, none⟩ = some (.slice ass us.length css) := cell_of_heap hS.box
              have gl := cell_lt g0
              have hra : RegAt wr (.agg #[.bool cf, .slice al1 r.lines.length cl1, .slice ass us.length css]) (mapR (mv d) r) := by
                refine ⟨_, _, us, by rw [← HCF.out]; rfl, ?_, ownsRow_base' hS.row (Nat.zero_le _), hS.sides.1, fun i u r hu hr => ownsRow_base' (hS.sides.2 i u r hu hr) (Nat.zero_le _)⟩
                have := hS.lines
                rw [HLL.out] at this
                exact ownsRow_base' this (Nat.zero_le _)
              obtain ⟨xs, hxs, hrow, hxr, hxb⟩ := HWW.out.below hS.below
              have hxl : xs.length = k := by
                have := congrArg List.length hxs
                rw [List.length_map, List.length_map, List.length_take] at this
                omega
              obtain ⟨aw, cw, hvw⟩ := ownsRow_form hrow
              subst hvw
              have hw1 : wr.alloc (.cells #[.bool cf, .slice al1 r.lines.length cl1, .slice ass us.length css] 45) = wr.alloc (.cells #[.bool cf, .slice al1 r.lines.length cl1, .slice ass us.length css] 45) := rfl
              have hown1 := ownsRow_below hrow ((Below.refl wr.heap.size wr).alloc (Nat.le_refl _) (.cells #[.bool cf, .slice al1 r.lines.length cl1, .slice ass us.length css] 45))
              have hsrc : SrcAt (wr.alloc (.cells #[.bool cf, .slice al1 r.lines.length cl1, .slice ass us.length css] 45)) (.slice (some ⟨wr.heap.size, 0, none⟩) 1 1) 1 3 [.bool cf, .slice al1 r.lines.length cl1, .slice ass us.length css] := by
                refine SrcAt.one _ _ _ [.bool cf, .slice al1 r.lines.length cl1, .slice ass us.length css] fun j u hu => ?_
                rw [cell_of_heap (heap_alloc_at rfl)]
                simpa using hu
              have hxl2 : xs.length ≤ 1000 := by omega
              clear hxl
              obtain ⟨fx, hfx⟩ : ∃ fx : List Value, fx = xs.flatMap fun (x : Value × Reg) => regCells x.1 := ⟨_, rfl⟩
              rw [← hfx] at hown1
              have HFX := Lib.hid hfx
              clear hfx
              have HX := Lib.hid (And.intro hrow (And.intro hxr (And.intro hxb (And.intro hra hxs))))
              have HO3 := Lib.hid hown1
              have HSR := Lib.hid hsrc
              have HSZ : Hid (w4.heap.size ≤ (wr.alloc (.cells #[.bool cf, .slice al1 r.lines.length cl1, .slice ass us.length css] 45)).heap.size) := by have := hxb.size; show _ ≤ _; simp; omega
              have h1r := HRK.out.2.2
              clear hra hrow hxr hxb hxs hown1 hsrc hw1 hS HS
              go_wp2_with (at_builtin; refine wpList_app rfl _ _ _ rfl w4.heap.size 45 (.agg #[.bool false, .slice none 0 0, .slice none 0 0]) 3 56 Tryz.underlying32 info_Region rfl (by decide) _ xs.length fx rfl HO3.out _ 1 [.bool cf, .slice al1 r.lines.length cl1, .slice ass us.length css] rfl HSR.out (by intro u hu; simp at hu; rcases hu with rfl | rfl | rfl <;> rfl) (by omega) (by omega) HSZ.out ?_; intro a' c' w2' hown2 hgrow2 hat2)
              rw [HFX.out] at hown2
              have hws := want_step HX.out.1 HX.out.2.1 HX.out.2.2.1 HX.out.2.2.2.1 hgrow2 hown2
              go_roundg (gko - 1)
              case measure => omega
              case rel =>
                refine ⟨k + 1, by omega, by go_num, ?_⟩
                rw [HX.out.2.2.2.2] at hws
                rw [List.take_add_one, HRK.out.1]
                simpa using hws
      · have hkl : k = regs.length := by omega
        subst hkl
        rw [List.take_length] at hW
        obtain ⟨xs, hxs, hown, hra, hB⟩ := hW
        have hreg := regsIn_of hown hra
        rw [hxs] at hreg
        obtain ⟨aw, cw, hvw⟩ := ownsRow_form hown
        subst hvw
        have hfit : ∀ r ∈ regs.map (mapR (mv d)), Fits r := fun r hr => by
          obtain ⟨r0, hr0, rfl⟩ := List.mem_map.1 hr
          have h1 := HRB2.out.2 r0 hr0
          unfold Fits mapR
          refine ⟨by simp; omega, by simp; omega, fun s hs => ?_⟩
          obtain ⟨s0, hs0, rfl⟩ := List.mem_map.1 hs
          have := h1.2.2 s0 hs0
          simp; omega
        have hsame := refSame_true (regs.map (mapR (mv d))) _ _ wr hreg (HRB.out.below hB) hfit (by simp; omega)
        have HBR : Hid (Below w.heap.size w wr) := HB4.out.trans (hB.mono HB4.out.size)
        clear hreg hown hra hB hfit hxs
        go_wp2_with (fail)
        refine hsame.mono ?_
        rintro e w6 ⟨rfl, hb6⟩
        have HB6 : Hid (Below w.heap.size w w6) := HBR.out.trans (hb6.mono HBR.out.size)
        clear hsame hb6
        go_wp2_with (fail)
        refine (awake_any w6).mono ?_
        rintro e w7 ⟨rfl, hb7⟩
        have HB7 : Hid (Below w.heap.size w w7) := HB6.out.trans (hb7.mono HB6.out.size)
        clear hb7
        go_wp2
        go_ret
        exact ⟨rfl, HB7.out⟩
end Go.Proofs.Lg
