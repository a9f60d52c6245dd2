/-
  Part Q3 of this claim's proof. Joined by merge.py from the texts of wip/tpl.
-/
import Derived.Test.YtclholnhkhjjaaaGreatGA
import Derived.Test.YtclholnhkhjjaaaGreatP3
set_option linter.unusedVariables false
set_option linter.unusedSimpArgs false
set_option linter.unnecessarySimpa false
namespace Go.Proofs.Lg
open Go Go.RowKit Go.Shelf

/-- Three cells that hold a region. -/
def RegVal (W : World) (c : List Value) (r : Reg) : Prop := ∃ vl vs, c = [.bool r.conflict, vl, vs] ∧ SlAt W vl (ints (nats r.lines)) ∧ SlOf W vs (r.sides.map fun s => ints (nats s))
/-- A slice of regions. -/
def RegsIn (W : World) (v : Value) (regs : List Reg) : Prop := ∃ cs : List (List Value), SlN W v 3 cs ∧ cs.length = regs.length ∧ ∀ (i : Nat) (c : List Value) (r : Reg), cs[i]? = some c → regs[i]? = some r → RegVal W c r

theorem RegVal.below {W W' : World} {c : List Value} {r : Reg} (h : RegVal W c r) (hb : Below W.heap.size W W') : RegVal W' c r := by
  obtain ⟨vl, vs, hc, h1, h2⟩ := h
  exact ⟨vl, vs, hc, h1.below hb, h2.below hb⟩
theorem RegsIn.below {W W' : World} {v : Value} {regs : List Reg} (h : RegsIn W v regs) (hb : Below W.heap.size W W') : RegsIn W' v regs := by
  obtain ⟨cs, h1, h2, h3⟩ := h
  exact ⟨cs, h1.below hb, h2, fun i c r hc hr => (h3 i c r hc hr).below hb⟩

theorem RegsIn.form {W : World} {v : Value} {regs : List Reg} (h : RegsIn W v regs) : ∃ a m c, v = .slice a m c := by
  obtain ⟨cs, ⟨a, c, hv, _⟩, _⟩ := h
  exact ⟨a, _, c, hv⟩

theorem flatMap_get {α β : Type} (f : α → List β) (n : Nat) : ∀ (xs : List α) (i j : Nat) (x : α), (∀ y ∈ xs, (f y).length = n) → xs[i]? = some x → j < n → (xs.flatMap f)[i * n + j]? = (f x)[j]?
  | [], _, _, _, _, h, _ => by simp at h
  | y :: ys, 0, j, x, hf, h, hj => by
    simp at h; subst h
    rw [List.flatMap_cons, Nat.zero_mul, Nat.zero_add, List.getElem?_append_left (by rw [hf _ List.mem_cons_self]; exact hj)]
  | y :: ys, i + 1, j, x, hf, h, hj => by
    have hl := hf y List.mem_cons_self
    have e : (i + 1) * n = i * n + n := Nat.succ_mul i n
    rw [List.flatMap_cons, List.getElem?_append_right (by omega), hl, show (i + 1) * n + j - n = i * n + j by omega]
    exact flatMap_get f n ys i j x (fun z hz => hf z (List.mem_cons_of_mem _ hz)) (by simpa using h) hj

theorem ownsRow_slN {α : Type} {w : World} {base e size n : Nat} {v : Value} {xs : List α} {f : α → List Value} (h : w.ownsRow base e size v n (xs.flatMap f)) (hn : xs.length = n) (hf : ∀ x ∈ xs, (f x).length = size) : SlN w v size (xs.map f) := by
  obtain ⟨hl, h2⟩ := h
  rcases h2 with ⟨rfl, h0⟩ | ⟨g, cap, cur, rfl, hb, hg, h3, h4, h5, h6⟩
  · have : xs = [] := List.eq_nil_of_length_eq_zero (by omega)
    subst this
    subst h0
    exact ⟨none, 0, rfl, Nat.le_refl _, by omega, fun h => absurd rfl h⟩
  · unfold maxLen at h4
    refine ⟨_, cap, by simp [hn], by simpa [hn] using h3, h4, fun _ => ⟨g, 0, rfl, fun i u hu => ?_⟩⟩
    rw [List.getElem?_map] at hu
    obtain ⟨x, hx, rfl⟩ := Option.map_eq_some_iff.1 hu
    intro j v hv
    have hxl := hf x (List.mem_of_getElem? hx)
    have hj : j < size := by rw [← hxl]; exact (List.getElem?_eq_some_iff.1 hv).1
    have hi : i < n := by rw [← hn]; exact (List.getElem?_eq_some_iff.1 hx).1
    rw [cell_of_heap hg, Nat.zero_add]
    have hk := flatMap_get f size xs i j x hf hx hj
    rw [hv, ← h6, List.getElem?_take] at hk
    split at hk
    · simpa using hk
    · cases hk

theorem sides_slOf {W : World} {base : Nat} {vs : Value} {us : List Value} {sides : List (List Nat)} (h : W.ownsRow base 29 1 vs us.length us) (hs : SidesOwn W base us sides) : SlOf W vs (sides.map fun s => ints (nats s)) := by
  refine ⟨us, ownsRow_slAt h, by simpa using hs.1, fun i u r hu hr => ?_⟩
  rw [List.getElem?_map] at hr
  obtain ⟨s, hs', rfl⟩ := Option.map_eq_some_iff.1 hr
  exact ownsRow_slAt (hs.2 i u s hu hs')

theorem RegAt.val {W : World} {v : Value} {r : Reg} (h : RegAt W v r) : RegVal W (regCells v) r := by
  obtain ⟨vl, vs, us, rfl, h1, h2, h3⟩ := h
  exact ⟨vl, vs, rfl, ownsRow_slAt h1, sides_slOf h2 h3⟩

theorem regsIn_of {W : World} {base : Nat} {v : Value} {xs : List (Value × Reg)} (h : W.ownsRow base 45 3 v xs.length (xs.flatMap fun x => regCells x.1)) (hr : ∀ x ∈ xs, RegAt W x.1 x.2) : RegsIn W v (xs.map (·.2)) := by
  refine ⟨xs.map fun x => regCells x.1, ownsRow_slN h rfl (fun x hx => ?_), by simp, fun i c r hc hr' => ?_⟩
  · obtain ⟨vl, vs, hc, _⟩ := (hr x hx).val
    rw [hc]; rfl
  · rw [List.getElem?_map] at hc hr'
    obtain ⟨x, hx, rfl⟩ := Option.map_eq_some_iff.1 hc
    obtain ⟨y, hy, rfl⟩ := Option.map_eq_some_iff.1 hr'
    rw [hx] at hy
    obtain rfl := Option.some.inj hy
    exact (hr x (List.mem_of_getElem? hx)).val

theorem regions_any (vl ve vr vv : Value) (w : World) :
    Calls Tryz.prog 43 #[.agg #[vl, ve, vr, vv]] w fun e w' => e = .returned (.func (.func 82) #[] #[.pointer (some ⟨w.heap.size, 0, none⟩)]) ∧ w' = w.alloc (.cells #[vl, ve, vr, vv] 78) := by
  go_enter Tryz.func43, Tryz.ntmps43
  go_wp2
  go_ret
  exact ⟨rfl, rfl⟩

set_option maxHeartbeats 1000000 in
theorem CollectRegion_any (Bx n : Nat) (vl ve vr vv : Value) (rows : List (List Bool)) (living : List Nat) (w : World) (ho : OdAt w vl ve vr vv rows living)
    (hq : Sq n rows) (hn : n ≤ 1000000) (hl : ∀ i ∈ living, i < n) (hll : living.length ≤ 1000000) (ht : TransR n rows)
    (x0 : w.cell? ⟨Bx, 0, none⟩ = some vl) (x1 : w.cell? ⟨Bx, 1, none⟩ = some ve) (x2 : w.cell? ⟨Bx, 2, none⟩ = some vr) (x3 : w.cell? ⟨Bx, 3, none⟩ = some vv) :
    Calls Tryz.prog 42 #[.func (.func 82) #[] #[.pointer (some ⟨Bx, 0, none⟩)]] w fun e W' => ∃ v, e = .returned v ∧ RegsIn W' v (regionsL rows living) ∧ Below w.heap.size w W' := by
  have hb : Below w.heap.size w (w.alloc (.cells #[.slice none 0 0] 32)) := (Below.refl _ _).alloc (Nat.le_refl _) _
  have hseq := regions1_told 4 (by omega) Bx n w.heap.size w.heap.size 32 vl ve vr vv rows living (w.alloc (.cells #[.slice none 0 0] 32)) hb.size (cell_lt x0) (by simp) (by have := cell_lt x0; simp at this; omega) (heap_alloc_new w _) ho.l ho.e
    ((ho.r.slOfP.stays fun b hb' _ => hb.block b hb').mono fun b hb' => ⟨hb', by omega⟩) ((ho.v.slAtP.stays fun b hb' _ => hb.block b hb').mono fun b hb' => ⟨hb', by omega⟩) hq hn hl hll ht
    (below_cell hb x0) (below_cell hb x1) (below_cell hb x2) (below_cell hb x3)
  have HC := Lib.hid (callsIn_wide.1 (appendSeqRegion_in Fence.wide 5 82 #[.pointer (some ⟨Bx, 0, none⟩)] trivial trivial rfl (by omega) (regionsL rows living) (2 * living.length + 4) (by omega) w (enters_of Tryz.func82 (by kernel_rfl) rfl) hseq))
  clear hseq hb ho x0 x1 x2 x3
  go_enter Tryz.func42, Tryz.ntmps42
  go_wp2_with fail
  refine HC.out.mono ?_
  rintro e w1 ⟨v, rfl, xs, hxs, hown, hra, hB⟩
  have H := Lib.hid (And.intro hxs (And.intro hown (And.intro hra hB)))
  obtain ⟨a, c, hv⟩ := ownsRow_form hown
  subst hv
  clear hown hra hB hxs
  go_wp2
  go_ret
  refine ⟨_, rfl, ?_, H.out.2.2.2⟩
  rw [← H.out.1]
  exact regsIn_of H.out.2.1 H.out.2.2.1

set_option maxHeartbeats 1000000 in
theorem Regions_any (vl ve : Value) (g : Gr) (w : World) (hg : GrAt w vl ve g) :
    Calls Tryz.prog 13 #[.agg #[vl, ve]] w fun e w' => ∃ v, e = .returned v ∧ RegsIn w' v (regionsL g.reach g.living) ∧ Below w.heap.size w w' := by
  obtain ⟨al, cl, ml, rfl⟩ : ∃ a c m, vl = .slice a m c := by obtain ⟨a, c, h, _⟩ := hg.lines; exact ⟨a, c, _, h⟩
  obtain ⟨ae, ce, me, rfl⟩ : ∃ a c m, ve = .slice a m c := by obtain ⟨a, c, h, _⟩ := hg.edges; exact ⟨a, c, _, h⟩
  have hB0 : Hid (Below w.heap.size w (w.alloc (.cells #[.slice al ml cl, .slice ae me ce] 25))) := (Below.refl _ _).alloc (Nat.le_refl _) _
  have HB := Lib.hid (begin_any _ _ g _ (hg.below hB0.out))
  have hfew := hg.few
  clear hg
  go_enter Tryz.func13, Tryz.ntmps13
  go_wp2_with fail
  refine HB.out.mono ?_
  rintro e w1 ⟨vl', ve', vr, vv, rfl, ho, hb1⟩
  have HB1 : Hid (Below w.heap.size w w1) := hB0.out.trans (hb1.mono hB0.out.size)
  have HO := Lib.hid ho
  clear ho hb1 HB hB0
  go_wp2_with fail
  refine (regions_any vl' ve' vr vv w1).mono ?_
  rintro e w2 ⟨rfl, rfl⟩
  have hb2 : Below w1.heap.size w1 (w1.alloc (.cells #[vl', ve', vr, vv] 78)) := (Below.refl _ _).alloc (Nat.le_refl _) _
  have HC := Lib.hid (CollectRegion_any w1.heap.size g.dim vl' ve' vr vv g.reach g.living _ ⟨HO.out.l, HO.out.e, HO.out.r.below hb2, HO.out.v.below hb2⟩ g.sq (by have := g.dim_le; omega) g.living_lt (by have := g.living_len; omega) g.transR
    (by simp [go_sem]) (by simp [go_sem]) (by simp [go_sem]) (by simp [go_sem]))
  have HB2 : Hid (Below w.heap.size w (w1.alloc (.cells #[vl', ve', vr, vv] 78))) := HB1.out.trans (hb2.mono HB1.out.size)
  clear hb2 hfew
  go_wp2_with fail
  refine HC.out.mono ?_
  rintro e w3 ⟨v, rfl, hr, hb3⟩
  have H := Lib.hid (And.intro hr hb3)
  obtain ⟨a, m, c, hv⟩ := hr.form
  subst hv
  clear hb3 HC hr
  go_wp2
  go_ret
  exact ⟨_, rfl, H.out.1, HB2.out.trans (H.out.2.mono HB2.out.size)⟩

set_option maxHeartbeats 1000000 in
theorem Settled_any (vl ve : Value) (g : Gr) (w : World) (hg : GrAt w vl ve g) :
    Calls Tryz.prog 10 #[.agg #[vl, ve]] w fun e w' => ∃ v, e = .returned v ∧ SlAt w' v (ints (nats (sortB g.reach (inL g.reach g.living g.living)))) ∧ Below w.heap.size w w' := by
  obtain ⟨al, cl, ml, rfl⟩ : ∃ a c m, vl = .slice a m c := by obtain ⟨a, c, h, _⟩ := hg.lines; exact ⟨a, c, _, h⟩
  obtain ⟨ae, ce, me, rfl⟩ : ∃ a c m, ve = .slice a m c := by obtain ⟨a, c, h, _⟩ := hg.edges; exact ⟨a, c, _, h⟩
  have hB0 : Hid (Below w.heap.size w (w.alloc (.cells #[.slice al ml cl, .slice ae me ce] 25))) := (Below.refl _ _).alloc (Nat.le_refl _) _
  have HB := Lib.hid (begin_any _ _ g _ (hg.below hB0.out))
  have hfew := hg.few
  clear hg
  go_enter Tryz.func10, Tryz.ntmps10
  go_wp2_with fail
  refine HB.out.mono ?_
  rintro e w1 ⟨vl', ve', vr, vv, rfl, ho, hb1⟩
  have HB1 : Hid (Below w.heap.size w w1) := hB0.out.trans (hb1.mono hB0.out.size)
  have HS := Lib.hid (settled_any vl' ve' vr vv g.dim g.reach g.living w1 ho g.sq (by have := g.dim_le; omega) g.living_lt (by have := g.living_len; omega) g.transR)
  clear ho hb1 HB hB0 hfew
  go_wp2_with fail
  refine HS.out.mono ?_
  rintro e w2 ⟨v1, v2, rfl, h1, h2, hb2⟩
  have H := Lib.hid (And.intro h1 hb2)
  obtain ⟨a1, c1, hv1⟩ := ownsRow_form h1
  obtain ⟨a2, c2, hv2⟩ := ownsRow_form h2
  subst hv1 hv2
  clear h1 h2 hb2 HS
  go_wp2
  go_ret
  exact ⟨_, rfl, ownsRow_slAt H.out.1, HB1.out.trans (H.out.2.mono HB1.out.size)⟩
end Go.Proofs.Lg
