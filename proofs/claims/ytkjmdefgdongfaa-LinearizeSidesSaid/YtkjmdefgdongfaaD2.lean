/-
  The walk of LinearizeSides.
-/
import Derived.Test.YtkjmdefgdongfaaP5
import Derived.Test.YtkjmdefgdongfaaE2
import Derived.Test.YtkjmdefgdongfaaL6
import Derived.Test.YtkjmdefgdongfaaA1
import Derived.Test.YtkjmdefgdongfaaD1
namespace Go.Proofs.Lg
open Go Go.RowKit

theorem Gr.dim_eq {g : Gr} (h : g.check = 0) : g.dim = g.lines.length := by unfold Gr.dim; rw [if_pos h]

/-- What the sides of a graph's regions have to do with one another. -/
def SidesGood (g : Gr) (regs : List Reg) : Prop := ∀ r ∈ regs, ∀ (k : Nat) (s : List Nat), r.sides[k]? = some s → ∀ i ∈ s, i < g.lines.length ∧ (∀ j ∈ r.all, j < g.lines.length) ∧ (r.all.any fun j => g.apart i j) = true ∧
  ∀ (m : Nat) (t : List Nat), m < k → r.sides[m]? = some t → (t.any fun j => rel g.reach i j || rel g.reach j i) = false

theorem sidesGood {g : Gr} (hck : g.check = 0) : SidesGood g (regionsL g.reach g.living) := by
  intro r hr k s hs i hi
  have hsm : s ∈ r.sides := List.mem_of_getElem? hs
  rcases (regionsL_good g.lv).1 r hr with ⟨_, _, h⟩ | ⟨hcf, hln, _, _⟩
  · rw [h] at hsm; exact absurd hsm (by simp)
  · obtain ⟨kk, hsd⟩ := regionsL_conflict.1 r hr hcf
    have hgap := fun u hu => gap_apart (k := kk) (u := u) g.lv hu
    have hG : ∀ i ∈ (outL g.reach g.living g.living).filter fun i => gapN g.reach (sortB g.reach (inL g.reach g.living g.living)) i == kk, i < g.dim := fun i hi => g.living_lt i (mem_outL.1 (List.mem_filter.1 hi).1).1
    generalize ((outL g.reach g.living g.living).filter fun i => gapN g.reach (sortB g.reach (inL g.reach g.living g.living)) i == kk) = G at *
    obtain ⟨hok, hfl⟩ := classesL_ok g.transR hG
    rw [← hsd] at hfl
    have hap : r.sides.Pairwise fun a b => ∀ x ∈ a, ∀ y ∈ b, adj g.reach x y = false := by rw [hsd]; exact hok.apart
    have hall : ∀ x, x ∈ r.all ↔ x ∈ G := fun x => by unfold Reg.all; rw [hln, List.nil_append]; exact hfl x
    have hlt : ∀ x ∈ G, x < g.lines.length := fun x hx => by rw [← Gr.dim_eq hck]; exact hG x hx
    have hiG : i ∈ G := (hfl i).1 (List.mem_flatten.2 ⟨s, hsm, hi⟩)
    refine ⟨hlt i hiG, fun j hj => hlt j ((hall j).1 hj), ?_, fun m t hm ht => ?_⟩
    · obtain ⟨v, hv, hne, hrel⟩ := hgap i hiG
      rw [← Gr.before_relat hck (hlt i hiG) (hlt v hv)] at hrel
      rw [List.any_eq_true]
      refine ⟨v, (hall v).2 hv, ?_⟩
      unfold Gr.apart
      simp only [Bool.or_eq_false_iff] at hrel
      simp [hne, hrel.1, hrel.2]
    · rw [List.any_eq_false]
      intro j hj
      have hk := (List.getElem?_eq_some_iff.1 hs)
      have hm' := (List.getElem?_eq_some_iff.1 ht)
      obtain ⟨hkl, rfl⟩ := hk
      obtain ⟨hml, rfl⟩ := hm'
      have := List.pairwise_iff_getElem.1 hap m k hml hkl hm j hj i hi
      rw [adj_or] at this
      simp only [Bool.or_eq_false_iff] at this
      simp [this.1, this.2]

theorem len_flat : ∀ (l : List (List Nat)) (s : List Nat), s ∈ l → s.length ≤ l.flatten.length
  | [], _, h => absurd h (by simp)
  | t :: l, s, h => by
    rw [List.flatten_cons, List.length_append]
    rcases List.mem_cons.1 h with rfl | h
    · omega
    · have := len_flat l s h; omega

theorem SlOf.rowsN {w : World} {v : Value} {rows : List (List Nat)} (h : SlOf w v (rows.map fun s => ints (nats s))) : ∃ a c, v = .slice a rows.length c ∧ rows.length ≤ c ∧ c ≤ 9223372036854775807 ∧ ∀ (k : Nat) (s : List Nat), rows[k]? = some s →
    ∃ b off al cl, a = some ⟨b, off, none⟩ ∧ w.cell? ⟨b, off + k, none⟩ = some (.slice al s.length cl) ∧ SlAt w (.slice al s.length cl) (ints (nats s)) := by
  obtain ⟨vs, ⟨a, c, hv, h1, h2, h3⟩, h4, h5⟩ := h
  rw [List.length_map] at h4
  refine ⟨a, c, by rw [hv, h4], by omega, h2, fun k s hk => ?_⟩
  have hkl : k < vs.length := by rw [h4]; exact (List.getElem?_eq_some_iff.1 hk).1
  obtain ⟨b, off, ha, hc⟩ := h3 (by intro e; subst e; simp at hkl)
  have e1 : vs[k]? = some vs[k] := List.getElem?_eq_getElem hkl
  have h6 := hc k _ e1
  have h7 := h5 k _ (ints (nats s)) e1 (by rw [List.getElem?_map, hk]; rfl)
  obtain ⟨al, cl, h8, _⟩ := id h7
  rw [ints_length, nats_length] at h8
  rw [h8] at h6 h7
  exact ⟨b, off, al, cl, ha, h6, h7⟩

theorem containsApart (vl ve v : Value) (g : Gr) (i Bg Bf Bi : Nat) (l : List Nat) (w : World) (hg : GrAt w vl ve g) (hck : g.check = 0) (hi : i < g.lines.length) (hl : ∀ j ∈ l, j < g.lines.length) (hn : l.length ≤ 100000000)
    (h0 : w.cell? ⟨Bg, 0, none⟩ = some vl) (h1 : w.cell? ⟨Bg, 1, none⟩ = some ve) (hf : w.cell? ⟨Bf, 0, none⟩ = some (.func (.func 16) #[] #[.pointer (some ⟨Bg, 0, none⟩)])) (hbi : w.cell? ⟨Bi, 0, none⟩ = some (.int .i64 i)) (hsl : SlAt w v (ints (nats l))) :
    Calls Try.prog 17 #[v, .func (.func 18) #[] #[.pointer (some ⟨Bf, 0, none⟩), .pointer (some ⟨Bi, 0, none⟩)]] w fun e w' => e = .returned (.bool (l.any fun j => g.apart i j)) ∧ Below w.heap.size w w' := by
  have hp : PredOk Try.prog 18 #[.pointer (some ⟨Bf, 0, none⟩), .pointer (some ⟨Bi, 0, none⟩)] (fun x => 0 ≤ x ∧ x < (g.lines.length : Int)) (fun x => g.apart i x.toNat) w := by
    rintro x ⟨hx0, hxn⟩ W hW
    have := sides2_any vl ve g i x.toNat Bg Bf Bi W (hg.below hW) hck hi (by omega) (below_cell hW h0) (below_cell hW h1) (below_cell hW hf) (below_cell hW hbi)
    rw [Int.toNat_of_nonneg hx0] at this
    exact this
  have hc := ContainsFuncInt_any (nats l) v 18 _ _ _ _ hsl (mem_nats hl) (by rw [nats_length]; omega) (enters_of Try.func18 (by kernel_rfl) rfl) hp
  rw [any_nats] at hc
  exact hc

theorem containsLinked (vr v : Value) (n i Br Bi : Nat) (rows : List (List Bool)) (l : List Nat) (w : World) (h : SlOf w vr (rows.map bools)) (hq : Sq n rows) (hi : i < n) (hl : ∀ j ∈ l, j < n) (hn : n ≤ 1000000) (hll : l.length ≤ 100000000)
    (hr : w.cell? ⟨Br, 0, none⟩ = some vr) (hbi : w.cell? ⟨Bi, 0, none⟩ = some (.int .i64 i)) (hsl : SlAt w v (ints (nats l))) :
    Calls Try.prog 17 #[v, .func (.func 19) #[] #[.pointer (some ⟨Br, 0, none⟩), .pointer (some ⟨Bi, 0, none⟩)]] w fun e w' => e = .returned (.bool (l.any fun j => rel rows i j || rel rows j i)) ∧ Below w.heap.size w w' := by
  have hp : PredOk Try.prog 19 #[.pointer (some ⟨Br, 0, none⟩), .pointer (some ⟨Bi, 0, none⟩)] (fun x => 0 ≤ x ∧ x < (n : Int)) (fun x => rel rows i x.toNat || rel rows x.toNat i) w := by
    rintro x ⟨hx0, hxn⟩ W hW
    have := sides3_any vr n i x.toNat Br Bi rows W (h.below hW) hq hi (by omega) hn (below_cell hW hr) (below_cell hW hbi)
    rw [Int.toNat_of_nonneg hx0] at this
    exact this
  have hc := ContainsFuncInt_any (nats l) v 19 _ _ _ _ hsl (mem_nats hl) (by rw [nats_length]; omega) (enters_of Try.func19 (by kernel_rfl) rfl) hp
  rw [any_nats] at hc
  exact hc

set_option maxRecDepth 100000 in
set_option maxHeartbeats 8000000 in
theorem sides_walk (vl ve : Value) (g : Gr) (w : World) (hg : GrIn w vl ve g) :
    Calls Try.prog 5 #[.agg #[vl, ve]] w fun e w' => e = .returned (.bool true) ∧ Below w.heap.size w w' := by
  obtain ⟨al, cl, hvl⟩ : ∃ a c, vl = .slice a g.lines.length c := by
    obtain ⟨a, c, h, _⟩ := hg.lines; exact ⟨a, c, by simpa using h⟩
  obtain ⟨ae, ce, hve⟩ : ∃ a c, ve = .slice a g.edges.length c := by obtain ⟨a, c, h, _⟩ := hg.edges; exact ⟨a, c, by simpa using h⟩
  subst hvl hve
  have hb0 : Below w.heap.size w (w.alloc (.cells #[.slice al g.lines.length cl, .slice ae g.edges.length ce] 25)) := (Below.refl _ _).alloc (Nat.le_refl _) _
  have HV := Lib.hid (valid_any _ _ g _ (hg.below hb0))
  have HB0 := Lib.hid hb0
  have HI := Lib.hid hg
  have hx0 : (w.alloc (.cells #[.slice al g.lines.length cl, .slice ae g.edges.length ce] 25)).cell? ⟨w.heap.size, 0, none⟩ = some (.slice al g.lines.length cl) := by simp [go_sem]
  have hx1 : (w.alloc (.cells #[.slice al g.lines.length cl, .slice ae g.edges.length ce] 25)).cell? ⟨w.heap.size, 1, none⟩ = some (.slice ae g.edges.length ce) := by simp [go_sem]
  have HX := Lib.hid (And.intro hx0 hx1)
  clear hg hb0 hx0 hx1
  cases hfine : g.fine with
  | false =>
    rw [hfine] at HV
    clear hfine
    go_enter Try.func5, Try.ntmps5
    go_wp2_with (fail)
    refine HV.out.mono ?_
    rintro e w1 ⟨rfl, hb1⟩
    have HB1 : Hid (Below w.heap.size w w1) := HB0.out.trans (hb1.mono HB0.out.size)
    clear hb1
    go_wp2_with (fail)
    refine (awake_any w1).mono ?_
    rintro e w2 ⟨rfl, hb2⟩
    have HB2 : Hid (Below w.heap.size w w2) := HB1.out.trans (hb2.mono HB1.out.size)
    clear hb2
    go_wp2
    go_ret
    exact ⟨rfl, HB2.out⟩
  | true =>
    rw [hfine] at HV
    obtain ⟨hbig, hck⟩ := Gr.fine_true hfine
    have HGA := Lib.hid (fun w' (h : GrIn w' (.slice al g.lines.length cl) (.slice ae g.edges.length ce) g) => h.few hbig)
    have HCK := Lib.hid hck
    have hfew : g.lines.length ≤ 1000000 := (HGA.out w HI.out).few
    have HSG : Hid (SidesGood g (regionsL g.reach g.living)) := sidesGood hck
    have HRG : Hid (RegsGood (regionsL g.reach g.living)) := regsGood g hfew
    have hrl := regs_len g hfew
    have hsq : Sq g.lines.length g.reach := by rw [← Gr.dim_eq hck]; exact g.sq
    have HSQ := Lib.hid hsq
    clear hfine hbig hck
    go_enter Try.func5, Try.ntmps5
    go_wp2_with (fail)
    refine HV.out.mono ?_
    rintro e w1 ⟨rfl, hb1⟩
    have HB1 : Hid (Below w.heap.size w w1) := HB0.out.trans (hb1.mono HB0.out.size)
    have HX1 := Lib.hid (And.intro (below_cell hb1 HX.out.1) (below_cell hb1 HX.out.2))
    have HRE := Lib.hid (Reaches_any _ _ g w1 (HGA.out w1 (HI.out.below HB1.out)))
    have x0 := HX1.out.1
    have x1 := HX1.out.2
    have xl := cell_lt x0
    clear hb1 HV HX
    go_wp2_with (fail)
    refine HRE.out.mono ?_
    rintro e w2 ⟨v, rfl, hv, hb2⟩
    obtain ⟨ar, cr, rfl⟩ : ∃ a c, v = .slice a g.lines.length c := by
      obtain ⟨vs, ⟨a, c, h, _⟩, hlen, _⟩ := hv
      refine ⟨a, c, ?_⟩
      rw [h, hlen, List.length_map, hsq.1]
    have hv' := hv.slOf
    clear hv hsq
    have y0 := below_cell hb2 x0
    have y1 := below_cell hb2 x1
    have yl := cell_lt y0
    have hbw2 : Hid (Below w.heap.size w w2) := HB1.out.trans (hb2.mono HB1.out.size)
    clear x0 x1 xl HX1 HRE hb2
    go_upto_region 6 with (fail)
    have hba : Below w2.heap.size w2 (w2.alloc (.cells #[.slice ar g.lines.length cr] 45)) := (Below.refl _ _).alloc (Nat.le_refl _) _
    have hr0 : (w2.alloc (.cells #[.slice ar g.lines.length cr] 45)).cell? ⟨w2.heap.size, 0, none⟩ = some (.slice ar g.lines.length cr) := by rw [cell_of_heap (heap_alloc_new w2 _)]; rfl
    generalize w2.alloc (.cells #[.slice ar g.lines.length cr] 45) = wa at *
    have HBA : Hid (Below w.heap.size w wa) := hbw2.out.trans (hba.mono hbw2.out.size)
    have HSL := Lib.hid (hv'.below hba)
    have z0 := below_cell hba y0
    have z1 := below_cell hba y1
    have zl := cell_lt z0
    generalize w2.heap.size = Br at *
    clear hba y0 y1 yl hv'
    have hbf : Below wa.heap.size wa (wa.alloc (.cells #[.func (.func 16) #[] #[.pointer (some ⟨w.heap.size, 0, none⟩)]] 47)) := (Below.refl _ _).alloc (Nat.le_refl _) _
    have f0 : (wa.alloc (.cells #[.func (.func 16) #[] #[.pointer (some ⟨w.heap.size, 0, none⟩)]] 47)).cell? ⟨wa.heap.size, 0, none⟩ = some (.func (.func 16) #[] #[.pointer (some ⟨w.heap.size, 0, none⟩)]) := by rw [cell_of_heap (heap_alloc_new wa _)]; rfl
    go_upto_region 7 with (fail)
    generalize wa.alloc (.cells #[.func (.func 16) #[] #[.pointer (some ⟨w.heap.size, 0, none⟩)]] 47) = wb at *
    have HBB : Hid (Below w.heap.size w wb) := HBA.out.trans (hbf.mono HBA.out.size)
    have HSLB := Lib.hid (HSL.out.below hbf)
    have r0 := below_cell hbf hr0
    have y0 := below_cell hbf z0
    have y1 := below_cell hbf z1
    have yl := cell_lt y0
    have HRGN := Lib.hid (Regions_any _ _ g wb (HGA.out _ (HI.out.below HBB.out)))
    generalize wa.heap.size = Bf at *
    clear hbf z0 z1 zl hr0 HSL HBA hbw2
    go_wp2_with (fail)
    refine HRGN.out.mono ?_
    rintro e w3 ⟨v, rfl, hr3, hb3⟩
    have HB3 : Hid (Below w.heap.size w w3) := HBB.out.trans (hb3.mono HBB.out.size)
    have HS3 := Lib.hid (HSLB.out.below hb3)
    have HX3 := Lib.hid (And.intro (below_cell hb3 y0) (And.intro (below_cell hb3 y1) (And.intro (below_cell hb3 r0) (below_cell hb3 f0))))
    clear HRGN HSLB HBB y0 y1 yl r0 f0
    generalize regionsL g.reach g.living = regs at *
    obtain ⟨av, cv, rfl, hcs⟩ := RegsIn.cells hr3
    have HCS := Lib.hid hcs
    clear hr3 hcs hb3
    go_wp2
    go_loopg [29] (regs.length + 1) (fun gk i wr => ∃ k : Nat, i = .int .i64 k ∧ k ≤ regs.length ∧ gk + k = regs.length + 1 ∧ Keep w3 wr)
    case atStart => exact ⟨0, rfl, Nat.zero_le _, rfl, Keep.refl _⟩
    case round =>
      obtain ⟨k, rfl, hk, hgk, hK⟩ := hrel
      obtain ⟨wo, rfl⟩ : ∃ wo : World, wo = wr := ⟨_, rfl⟩
      obtain ⟨g0, rfl⟩ : ∃ g0 : Nat, g0 = gk := ⟨_, rfl⟩
      have HK := Lib.hid hK
      by_cases hlt : k < regs.length
      · have hek := List.getElem?_eq_getElem hlt
        obtain ⟨b, off, al4, nl, cl4, ay, ny, cy, rfl, p0, p1, p2, s1, t1⟩ := HCS.out k _ hek
        have HSR : Hid (∀ (k' : Nat) (s : List Nat), regs[k].sides[k']? = some s → _) := Lib.hid (HSG.out _ (List.getElem_mem hlt))
        obtain ⟨_, hsm⟩ := HRG.out.1 _ (List.getElem_mem hlt)
        generalize regs[k] = r at *
        obtain ⟨ay', cy', hvs, hcap, hcap2, hrows⟩ := t1.rowsN
        injection hvs with e1 e2 e3
        subst e1 e2 e3
        have hnl : nl = r.lines.length := by obtain ⟨a, c, h, _⟩ := s1; injection h with _ h2 _; rw [h2, ints_length, nats_length]
        subst hnl
        have hns : r.sides.length ≤ 2000000 := hsm.1
        have hall : r.all.length ≤ 100000000 := by have := hsm.2; unfold Reg.all; rw [List.length_append]; omega
        have q0 := below_cell hK p0
        have q1 := below_cell hK p1
        have q2 := below_cell hK p2
        have ql := cell_lt q0
        go_upto_region 10 with (fail)
        have hbx : Below wo.heap.size wo (wo.alloc (.cells #[.bool r.conflict, .slice al4 r.lines.length cl4, .slice ay r.sides.length cy] 41)) := (Below.refl _ _).alloc (Nat.le_refl _) _
        have e0 : (wo.alloc (.cells #[.bool r.conflict, .slice al4 r.lines.length cl4, .slice ay r.sides.length cy] 41)).cell? ⟨wo.heap.size, 0, none⟩ = some (.bool r.conflict) := by rw [cell_of_heap (heap_alloc_new wo _)]; rfl
        have e1 : (wo.alloc (.cells #[.bool r.conflict, .slice al4 r.lines.length cl4, .slice ay r.sides.length cy] 41)).cell? ⟨wo.heap.size, 1, none⟩ = some (.slice al4 r.lines.length cl4) := by rw [cell_of_heap (heap_alloc_new wo _)]; rfl
        have e2 : (wo.alloc (.cells #[.bool r.conflict, .slice al4 r.lines.length cl4, .slice ay r.sides.length cy] 41)).cell? ⟨wo.heap.size, 2, none⟩ = some (.slice ay r.sides.length cy) := by rw [cell_of_heap (heap_alloc_new wo _)]; rfl
        generalize wo.alloc (.cells #[.bool r.conflict, .slice al4 r.lines.length cl4, .slice ay r.sides.length cy] 41) = wx at *
        have hkx : Keep w3 wx := Keep.trans hK hbx
        have HKX := Lib.hid hkx
        have HREF := Lib.hid (fun W (h : Keep wx W) => refLines_any r.conflict (.slice al4 r.lines.length cl4) (.slice ay r.sides.length cy) r W ((s1.below hkx).below h) ((t1.below hkx).below h) hsm)
        have HSX := Lib.hid (HS3.out.below hkx)
        have HX4 := Lib.hid (And.intro (below_cell hkx HX3.out.1) (And.intro (below_cell hkx HX3.out.2.1) (And.intro (below_cell hkx HX3.out.2.2.1) (below_cell hkx HX3.out.2.2.2))))
        have HE := Lib.hid (And.intro e0 (And.intro e1 e2))
        have HROW := Lib.hid hrows
        have HT1 := Lib.hid (t1.below hkx)
        have hel := cell_lt e0
        generalize wo.heap.size = Bx at *
        clear p0 p1 p2 s1 t1 hK hbx hkx hek hsm hrows q0 q1 q2 ql
        go_wp2
        go_loopg [36] (r.sides.length + 1) (fun gk i wr => ∃ ks : Nat, i = .int .i64 ks ∧ ks ≤ r.sides.length ∧ gk + ks = r.sides.length + 1 ∧ Keep wx wr)
        case atStart => exact ⟨0, rfl, Nat.zero_le _, rfl, Keep.refl _⟩
        case round =>
          obtain ⟨ks, rfl, hks, hgks, hKs⟩ := hrel
          obtain ⟨wp, rfl⟩ : ∃ wp : World, wp = wr := ⟨_, rfl⟩
          obtain ⟨g1, rfl⟩ : ∃ g1 : Nat, g1 = gk := ⟨_, rfl⟩
          have HKS := Lib.hid hKs
          by_cases hlts : ks < r.sides.length
          · have hes := List.getElem?_eq_getElem hlts
            obtain ⟨bs, offs, als, cls, rfl, s0, st⟩ := HROW.out ks _ hes
            have HSS : Hid (∀ i ∈ r.sides[ks], _) := Lib.hid (HSR.out ks _ hes)
            have hsl0 : r.sides[ks].length ≤ 100000000 := by
              have h1 := len_flat r.sides _ (List.getElem_mem hlts)
              unfold Reg.all at hall; rw [List.length_append] at hall; omega
            generalize r.sides[ks] = s at *
            have s1 := below_cell HKX.out s0
            have s2 := below_cell hKs s1
            have sl := cell_lt s2
            have HST := Lib.hid (st.below HKX.out)
            clear s0 s1 st hKs hes
            go_wp2
            clear s2 sl
            go_loopg [43] (s.length + 1) (fun gk i wr => ∃ j : Nat, i = .int .i64 j ∧ j ≤ s.length ∧ gk + j = s.length + 1 ∧ Keep wx wr)
            case atStart => exact ⟨0, rfl, Nat.zero_le _, rfl, HKS.out⟩
            case round =>
              obtain ⟨j, rfl, hj, hgj, hKj⟩ := hrel
              obtain ⟨wq, rfl⟩ : ∃ wq : World, wq = wr := ⟨_, rfl⟩
              obtain ⟨g2, rfl⟩ : ∃ g2 : Nat, g2 = gk := ⟨_, rfl⟩
              have HKJ := Lib.hid hKj
              by_cases hltj : j < s.length
              · obtain ⟨hin, hallt, hany, hrel⟩ := HSS.out s[j] (List.getElem_mem hltj)
                obtain ⟨al2, cl2, hvv, _, _, hc0⟩ := HST.out
                rw [ints_length, nats_length] at hvv
                injection hvv with e1' _ e3'
                subst e1' e3'
                obtain ⟨b2, off2, rfl, hcc⟩ := hc0 (by intro e; have := congrArg List.length e; rw [ints_length, nats_length] at this; simp at this; subst this; simp at hltj)
                have i0 := below_cell hKj (hcc j (.int .i64 (s[j] : Nat)) (by simp [ints, nats, hltj]))
                generalize s[j] = x at *
                have il := cell_lt i0
                clear hcc hc0
                go_upto_region 16 with (fail)
                have hbi : Below wq.heap.size wq (wq.alloc (.cells #[.int .i64 (x : Nat)] 3)) := (Below.refl _ _).alloc (Nat.le_refl _) _
                have c0 : (wq.alloc (.cells #[.int .i64 (x : Nat)] 3)).cell? ⟨wq.heap.size, 0, none⟩ = some (.int .i64 (x : Nat)) := by rw [cell_of_heap (heap_alloc_new wq _)]; rfl
                generalize wq.alloc (.cells #[.int .i64 (x : Nat)] 3) = wi at *
                have hki : Keep wx wi := Keep.trans HKJ.out hbi
                have HKI := Lib.hid hki
                have cl0 := cell_lt c0
                generalize wq.heap.size = Bi at *
                have m0 := below_cell hki HE.out.1
                have m1 := below_cell hki HE.out.2.1
                have m2 := below_cell hki HE.out.2.2
                have ml := cell_lt m0
                have mr := below_cell hki HX4.out.2.2.1
                have mrl := cell_lt mr
                have HRF := Lib.hid (HREF.out wi hki)
                have hge : decide ((g.lines.length : Int) ≤ (x : Int)) = false := by simp; omega
                have hge2 : decide (g.lines.length ≤ x) = false := by simp; omega
                have HGI := Lib.hid (HGA.out wi (HI.out.below (HB3.out.trans (Below.mono (Keep.trans HKX.out hki) HB3.out.size))))
                have HC0 := Lib.hid c0
                have HIN := Lib.hid hin
                have HAL := Lib.hid hallt
                have HAN := Lib.hid hany
                have HRL := Lib.hid hrel
                clear hbi hki i0 il hin hallt hany hrel
                go_wp2_with (fail)
                refine HRF.out.mono ?_
                rintro e w5 ⟨v5, rfl, ho5, hb5⟩
                obtain ⟨a5, c5, hv5⟩ := ownsRow_form ho5
                subst hv5
                have HK5 : Hid (Keep wx w5) := Keep.trans HKI.out hb5
                have d0 := below_cell hb5 c0
                have HCA := Lib.hid (containsApart _ _ _ g x w.heap.size Bf Bi r.all w5 (HGI.out.below hb5) HCK.out HIN.out HAL.out hall (below_cell HK5.out HX4.out.1) (below_cell HK5.out HX4.out.2.1) (below_cell HK5.out HX4.out.2.2.2) d0 (ownsRow_slAt ho5))
                rw [HAN.out] at HCA
                clear ho5 hb5 m0 m1 m2 ml mr mrl c0 cl0 HRF hge hge2
                go_wp2_with (fail)
                refine HCA.out.mono ?_
                rintro e w6 ⟨rfl, hb6⟩
                have HK6 : Hid (Keep wx w6) := Keep.trans HK5.out hb6
                have m2 := below_cell HK6.out HE.out.2.2
                have ml := cell_lt m2
                have HD0 := Lib.hid (below_cell hb6 d0)
                have hkc : ks ≤ cy := by omega
                have hkc2 : (ks : Int) ≤ (cy : Int) := by omega
                have hkc3 : (0 : Int) ≤ (ks : Int) := by omega
                clear HCA d0 hb6
                go_wp2
                clear m2 ml
                go_loopg [67] (ks + 1) (fun gk i wr => ∃ m : Nat, i = .int .i64 m ∧ m ≤ ks ∧ gk + m = ks + 1 ∧ Keep w6 wr)
                case atStart => exact ⟨0, rfl, Nat.zero_le _, rfl, Keep.refl _⟩
                case round =>
                  obtain ⟨m, rfl, hm, hgm, hKm⟩ := hrel
                  have HKM : Hid (Keep wx wr) := Keep.trans HK6.out hKm
                  by_cases hltm : m < ks
                  · have hem := List.getElem?_eq_getElem (show m < r.sides.length by omega)
                    obtain ⟨bt, offt, alt, clt, hbt, t0, tt⟩ := HROW.out m _ hem
                    obtain ⟨rfl, rfl⟩ : bs = bt ∧ offs = offt := by simpa using hbt
                    have hrt := HRL.out m _ hltm hem
                    have htl : (r.sides[m]'(by omega)).length ≤ 100000000 := by
                      have h1 := len_flat r.sides _ (List.getElem_mem (show m < r.sides.length by omega))
                      unfold Reg.all at hall; rw [List.length_append] at hall; omega
                    have hta : ∀ q ∈ r.sides[m]'(by omega), q < g.lines.length := fun q hq => HAL.out q (by unfold Reg.all; exact List.mem_append_right _ (List.mem_flatten.2 ⟨_, List.getElem_mem _, hq⟩))
                    have hwb := Keep.trans HKX.out HKM.out
                    have t1 := below_cell hwb t0
                    have tl := cell_lt t1
                    have HCL := Lib.hid (containsLinked _ _ g.lines.length x Br Bi g.reach _ wr (HSX.out.below HKM.out) HSQ.out HIN.out hta hfew htl (below_cell HKM.out HX4.out.2.2.1) (below_cell hKm HD0.out) (tt.below hwb))
                    rw [hrt] at HCL
                    generalize r.sides[m]'(by omega) = tt' at *
                    clear hem hrt htl hta hwb t0 tt hbt
                    have HKM2 := Lib.hid hKm
                    clear hKm
                    go_wp2_with (fail)
                    refine HCL.out.mono ?_
                    rintro e w7 ⟨rfl, hb7⟩
                    have HK7 : Hid (Keep w6 w7) := Keep.trans HKM2.out hb7
                    clear hb7 t1 tl
                    go_wp2
                    go_roundg (gk - 1)
                    case measure => omega
                    case rel => exact ⟨m + 1, by go_num, by omega, by omega, HK7.out⟩
                  · clear hgm hKm
                    go_wp2
                    go_roundg (g2 - 1)
                    case measure => omega
                    case rel => exact ⟨j + 1, by go_num, by omega, by omega, HKM.out⟩
              · clear hgj hKj
                go_wp2
                go_roundg (g1 - 1)
                case measure => omega
                case rel => exact ⟨ks + 1, by go_num, by omega, by omega, HKJ.out⟩
          · clear hgks hKs
            go_wp2
            go_roundg (g0 - 1)
            case measure => omega
            case rel => exact ⟨k + 1, by go_num, by omega, by omega, Keep.trans HKX.out HKS.out⟩
      · have HB4 : Hid (Below w.heap.size w wo) := HB3.out.trans (Below.mono HK.out HB3.out.size)
        clear hgk hK
        go_wp2_with (fail)
        refine (awake_any _).mono ?_
        rintro e w6 ⟨rfl, hb6⟩
        have HB6 : Hid (Below w.heap.size w w6) := HB4.out.trans (hb6.mono HB4.out.size)
        clear hb6
        go_wp2
        go_ret
        exact ⟨rfl, HB6.out⟩
end Go.Proofs.Lg
