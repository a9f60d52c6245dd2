/-
  The walk of LinearizeOnce.
-/
import Derived.Test.YtkjmdefgdongfaaN2
import Derived.Test.YtkjmdefgdongfaaN5
import Derived.Test.YtkjmdefgdongfaaE1
import Derived.Test.YtkjmdefgdongfaaL6
import Derived.Test.YtkjmdefgdongfaaA1
namespace Go.Proofs.Lg
open Go Go.RowKit

/-- The lines of the first k regions. -/
def flatK (regs : List Reg) (k : Nat) : List Nat := (regs.take k).flatMap Reg.all
theorem flatK_succ {regs : List Reg} {k : Nat} (h : k < regs.length) : flatK regs (k + 1) = flatK regs k ++ regs[k].all := by
  unfold flatK; rw [List.take_succ_eq_append_getElem h, List.flatMap_append]; simp
theorem flatK_le (regs : List Reg) (k : Nat) : (flatK regs k).length ≤ (regs.flatMap Reg.all).length := by
  unfold flatK
  rw [show regs.flatMap Reg.all = (regs.take k ++ regs.drop k).flatMap Reg.all by rw [List.take_append_drop], List.flatMap_append, List.length_append]; omega

theorem Gr.liv_get {g : Gr} {k : Nat} (h : k < g.lines.length) : g.liv k = g.lines[k].living := by
  unfold Gr.liv; rw [List.getElem?_eq_getElem h]; rfl
theorem Gr.seq_lt0 {g : Gr} (h : g.check = 0) : ∀ i ∈ seqL g.reach g.living, i < g.lines.length := by
  intro i hi
  have := g.living_lt i ((seqL_perm g.lv).mem_iff.1 hi)
  unfold Gr.dim at this
  rw [if_pos h] at this
  exact this

set_option maxRecDepth 100000 in
set_option maxHeartbeats 8000000 in
theorem once_walk (vl ve : Value) (g : Gr) (w : World) (hg : GrIn w vl ve g) :
    Calls Try.prog 6 #[.agg #[vl, ve]] w fun e w' => e = .returned (.bool true) ∧ Below w.heap.size w w' := by
  obtain ⟨al, cl, hvl, hl3⟩ : ∃ a c, vl = .slice a g.lines.length c ∧ g.lines.length ≤ c ∧ c ≤ 9223372036854775807 ∧ (g.lines.map Vtx.cells ≠ [] → ∃ b off, a = some ⟨b, off, none⟩ ∧ ∀ (i : Nat) (u : List Value), (g.lines.map Vtx.cells)[i]? = some u → w.rangeAt b (off + i * 35) u) := by
    obtain ⟨a, c, h, h1, h2, h3⟩ := hg.lines; exact ⟨a, c, by simpa using h, by simpa using h1, h2, h3⟩
  obtain ⟨hcap, hcap2, hl3⟩ := hl3
  obtain ⟨ae, ce, hve⟩ : ∃ a c, ve = .slice a g.edges.length c := by obtain ⟨a, c, h, _⟩ := hg.edges; exact ⟨a, c, by simpa using h⟩
  subst hvl hve
  have HL3 := Lib.hid hl3
  have hb0 : Below w.heap.size w (w.alloc (.cells #[.slice al g.lines.length cl, .slice ae g.edges.length ce] 25)) := (Below.refl _ _).alloc (Nat.le_refl _) _
  have HV := Lib.hid (valid_any _ _ g _ (hg.below hb0))
  have HB0 := Lib.hid hb0
  have HI := Lib.hid hg
  have hx0 : (w.alloc (.cells #[.slice al g.lines.length cl, .slice ae g.edges.length ce] 25)).cell? ⟨w.heap.size, 0, none⟩ = some (.slice al g.lines.length cl) := by simp [go_sem]
  have hx1 : (w.alloc (.cells #[.slice al g.lines.length cl, .slice ae g.edges.length ce] 25)).cell? ⟨w.heap.size, 1, none⟩ = some (.slice ae g.edges.length ce) := by simp [go_sem]
  have HX := Lib.hid (And.intro hx0 hx1)
  clear hg hb0 hx0 hx1 hl3
  cases hfine : g.fine with
  | false =>
    rw [hfine] at HV
    clear hfine hcap hcap2
    go_enter Try.func6, Try.ntmps6
    go_wp2_with (fail)
    refine HV.out.mono ?_
    rintro e w1 ⟨rfl, hb1⟩
    have HB1 : Hid (Below w.heap.size w w1) := HB0.out.trans (hb1.mono HB0.out.size)
    clear hb1
    go_wp2_with (fail)
    refine (awake_any w1).mono ?_
    rintro e w2 ⟨rfl, hb2⟩
    have HB2 : Hid (Below w.heap.size w w2) := HB1.out.trans (hb2.mono HB1.out.size)
    clear hb2
    go_wp2
    go_ret
    exact ⟨rfl, HB2.out⟩
  | true =>
    rw [hfine] at HV
    obtain ⟨hbig, hck⟩ := Gr.fine_true hfine
    have HGA := Lib.hid (fun w' (h : GrIn w' (.slice al g.lines.length cl) (.slice ae g.edges.length ce) g) => h.few hbig)
    have HCK := Lib.hid hck
    have hfew : g.lines.length ≤ 1000000 := (HGA.out w HI.out).few
    have HRG : Hid (RegsGood (regionsL g.reach g.living)) := regsGood g hfew
    have hrl := regs_len g hfew
    have hsl : (seqL g.reach g.living).length ≤ 1000000 := Nat.le_trans g.seq_le hfew
    have HSEQ : Hid ((regionsL g.reach g.living).flatMap Reg.all = seqL g.reach g.living) := rfl
    have HCON : Hid (∀ i, i < g.lines.length → (nats (seqL g.reach g.living)).contains (i : Int) = g.liv i) := fun i hi => Gr.once_contains hck hi
    have HND : Hid ((seqL g.reach g.living).Nodup) := (seqL_perm g.lv).nodup_iff.2 g.living_nd
    have HLT := Lib.hid (Gr.seq_lt0 hck)
    clear hfine hbig hck
    go_enter Try.func6, Try.ntmps6
    go_wp2_with (fail)
    refine HV.out.mono ?_
    rintro e w1 ⟨rfl, hb1⟩
    have HB1 : Hid (Below w.heap.size w w1) := HB0.out.trans (hb1.mono HB0.out.size)
    have HX1 := Lib.hid (And.intro (below_cell hb1 HX.out.1) (below_cell hb1 HX.out.2))
    have x0 := HX1.out.1
    have x1 := HX1.out.2
    have xl := cell_lt x0
    have HSQ := Lib.hid (Sequence_any _ _ g w1 (HGA.out w1 (HI.out.below HB1.out)))
    clear hb1 HV HX
    go_wp2_with (fail)
    refine HSQ.out.mono ?_
    rintro e w2 ⟨v3, rfl, hs3, hb2⟩
    have HB2 : Hid (Below w.heap.size w w2) := HB1.out.trans (hb2.mono HB1.out.size)
    have HX2 := Lib.hid (And.intro (below_cell hb2 HX1.out.1) (below_cell hb2 HX1.out.2))
    have z0 := HX2.out.1
    have z1 := HX2.out.2
    have zl := cell_lt z0
    have HRGN := Lib.hid (Regions_any _ _ g w2 (HGA.out w2 (HI.out.below HB2.out)))
    obtain ⟨a3, c3, hv3⟩ : ∃ a c, v3 = .slice a (seqL g.reach g.living).length c := by obtain ⟨a, c, h, _⟩ := hs3; rw [ints_length, nats_length] at h; exact ⟨a, c, h⟩
    subst hv3
    have HS3 := Lib.hid hs3
    clear hb2 x0 x1 xl HSQ hs3
    go_wp2_with (fail)
    refine HRGN.out.mono ?_
    rintro e w3 ⟨v, rfl, hr3, hb3⟩
    have HB3 : Hid (Below w.heap.size w w3) := HB2.out.trans (hb3.mono HB2.out.size)
    have HX3 := Lib.hid (And.intro (below_cell hb3 HX2.out.1) (below_cell hb3 HX2.out.2))
    have HS33 := Lib.hid (HS3.out.below hb3)
    clear HRGN hb3 z0 z1 zl HS3
    generalize seqL g.reach g.living = L at *
    generalize regionsL g.reach g.living = regs at *
    obtain ⟨av, cv, rfl, hcs⟩ := RegsIn.cells hr3
    have HCS := Lib.hid hcs
    have HFL : Hid (∀ k, (flatK regs k).length ≤ 1000000) := fun k => by have := flatK_le regs k; rw [HSEQ.out] at this; omega
    clear hr3 hcs
    go_wp2
    go_loopg [4, 18] (regs.length + 1) (fun gk out i wr => ∃ k : Nat, i = .int .i64 k ∧ k ≤ regs.length ∧ gk + k = regs.length + 1 ∧ wr.ownsRow w3.heap.size 3 1 out (flatK regs k).length (ints (nats (flatK regs k))) ∧ Keep w3 wr)
    case atStart => exact ⟨0, rfl, Nat.zero_le _, rfl, World.ownsRow_nil _ _ _ _, Keep.refl _⟩
    case round =>
      obtain ⟨k, rfl, hk, hgk, hown, hK⟩ := hrel
      have HKR := Lib.hid hK
      have HO := Lib.hid hown
      obtain ⟨ao, co, hvo⟩ := ownsRow_form hown
      subst hvo
      by_cases hlt : k < regs.length
      · have hek := List.getElem?_eq_getElem hlt
        obtain ⟨b, off, al4, nl, cl4, ay, ny, cy, rfl, p0, p1, p2, s1, t1⟩ := HCS.out k _ hek
        obtain ⟨hgood, hsm⟩ := HRG.out.1 _ (List.getElem_mem hlt)
        have HFS : Hid (flatK regs (k + 1) = flatK regs k ++ regs[k].all) := flatK_succ hlt
        have hf1 := HFL.out k
        have hf2 : (flatK regs k).length + regs[k].all.length ≤ 1000000 := by have := HFL.out (k + 1); rw [HFS.out, List.length_append] at this; exact this
        generalize regs[k] = r at *
        have q0 := below_cell hK p0
        have q1 := below_cell hK p1
        have q2 := below_cell hK p2
        have ql := cell_lt q0
        have hbx : Below wr.heap.size wr (wr.alloc (.cells #[.bool r.conflict, .slice al4 nl cl4, .slice ay ny cy] 41)) := (Below.refl _ _).alloc (Nat.le_refl _) _
        have HREF := Lib.hid (refLines_any r.conflict (.slice al4 nl cl4) (.slice ay ny cy) r _ ((s1.below hK).below hbx) ((t1.below hK).below hbx) hsm)
        have HBX := Lib.hid hbx
        clear p0 p1 p2 s1 t1 hK hbx hek hsm hgood hown
        generalize r.conflict = cf at *
        go_wp2_with (fail)
        refine HREF.out.mono ?_
        rintro e w5 ⟨v5, rfl, ho5, hb5⟩
        have hk5 : Keep wr w5 := Keep.trans HBX.out hb5
        have hs5 := (ownsRow_slAt ho5).src
        rw [ints_length, nats_length] at hs5
        obtain ⟨a5, c5, hv5⟩ := ownsRow_form ho5
        subst hv5
        have HO5 := Lib.hid (ownsRow_below HO.out hk5)
        have HS5 := Lib.hid hs5
        have HK5 : Hid (Keep w3 w5) := Keep.trans HKR.out hk5
        have hsz5 : w3.heap.size ≤ w5.heap.size := Below.size HK5.out
        clear hb5 ho5 hs5 hk5 q0 q1 q2
        go_wp2_with (at_builtin; refine wpList_app rfl _ _ _ rfl w3.heap.size 3 (.int .i64 0) 1 8 Try.underlying28 info_int rfl (by decide) _ (flatK regs k).length (ints (nats (flatK regs k))) rfl HO5.out _ r.all.length (ints (nats r.all)) rfl HS5.out (oneCell_ints _) (by omega) (by omega) hsz5 ?_; intro a' c' w6 hown6 hgrow6 hat6)
        go_roundg (gk - 1)
        case measure => omega
        case rel =>
          refine ⟨k + 1, by go_num, by omega, by omega, ?_, Below.grown HK5.out hgrow6 hsz5 (fun j hj => (HO5.out.lt j hj).1)⟩
          rw [HFS.out, List.length_append]
          simpa [ints, nats] using hown6
      · have hkl : flatK regs k = L := by unfold flatK; rw [List.take_of_length_le (by omega)]; exact HSEQ.out
        rw [hkl] at HO ⊢
        have hsl2 := ownsRow_slAt HO.out
        have HEQ := Lib.hid (EqualInts_same (nats L) _ _ wr (HS33.out.below HKR.out) hsl2 (by rw [nats_length]; omega))
        have HX4 := Lib.hid (And.intro (below_cell hK HX3.out.1) (below_cell hK HX3.out.2))
        have y0 := HX4.out.1
        have yl := cell_lt y0
        clear hkl hgk hown hsl2 hK y0 yl
        go_wp2_with (fail)
        refine HEQ.out.mono ?_
        rintro e w4 ⟨rfl, hb4⟩
        have HO4 := Lib.hid (ownsRow_below HO.out hb4)
        have HK4 : Hid (Keep w3 w4) := Keep.trans HKR.out hb4
        have HX5 := Lib.hid (And.intro (below_cell hb4 HX4.out.1) (below_cell hb4 HX4.out.2))
        have y0 := HX5.out.1
        have y1 := HX5.out.2
        have yl := cell_lt y0
        clear hb4 HEQ HX4 HKR HO
        go_wp2
        clear y0 y1 yl
        go_loopg [34] (g.lines.length + 1) (fun gk i wr => ∃ k : Nat, i = .int .i64 k ∧ k ≤ g.lines.length ∧ gk + k = g.lines.length + 1 ∧ Keep w4 wr)
        case atStart => exact ⟨0, rfl, Nat.zero_le _, rfl, Keep.refl _⟩
        case round =>
          obtain ⟨k, rfl, hk, hgk, hK⟩ := hrel
          have HKR := Lib.hid hK
          have HBR : Hid (Below w.heap.size w wr) := (HB3.out.trans (Below.mono HK4.out HB3.out.size)).trans (Below.mono hK (Nat.le_trans HB3.out.size (Below.size HK4.out)))
          have y0 := below_cell hK HX5.out.1
          have y1 := below_cell hK HX5.out.2
          have yl := cell_lt y0
          clear hK
          by_cases hlm : k < g.lines.length
          · obtain ⟨b, off, rfl, hc⟩ := HL3.out (by intro e; rw [List.map_eq_nil_iff] at e; simp [e] at hlm)
            have hok := (HI.out.okl g.lines[k] (List.getElem_mem _)).1
            have hr1 := rangeAt_below HBR.out (hc k g.lines[k].cells (by rw [List.getElem?_map, List.getElem?_eq_getElem hlm]; rfl))
            have HLM : Hid (g.liv k = g.lines[k].living) := Gr.liv_get hlm
            generalize g.lines[k] = y at hok hr1 HLM
            have hu := Try.underlying36
            have hcl := Vtx.cells_length hok
            have hi : (Try.prog.info? 36).map (·.size) = some y.cells.length := by rw [size_Vertex, hcl]
            have hi2 : (Try.prog.info? 36).map (·.size) = some y.cells.toArray.size := by rw [size_Vertex]; simp [hcl]
            have hly2 := Lib.hid (Vtx.cells_living hok)
            clear hc
            go_upto_region 15 with (first | (refine wpList_load_mid rfl _ _ rfl _ _ rfl _ _ hr1 hu rfl hi ?_; simp only [Act.put, List.setIfInBounds_toArray, List.set_cons_zero, List.set_cons_succ]) | (refine wpList_store_mid rfl 36 _ _ rfl _ _ y.cells.toArray rfl rfl (there_alloc_new _ _ _ _ (by simp [hcl])) hi2 (all_oneCell_toArray y.cells_one) ?_; rw [setCells_alloc_whole _ _ _ _ (by simp [hcl])]; simp only [Act.put]))
            have hHWY : Below wr.heap.size wr (wr.alloc (.cells y.cells.toArray 36)) := (Below.refl _ _).alloc (Nat.le_refl _) _
            have hL34 : (wr.alloc (.cells y.cells.toArray 36)).cell? ⟨wr.heap.size, 34, none⟩ = some (.bool y.living) := by rw [cell_of_heap (heap_alloc_new wr _)]; exact hly2.out
            generalize y.living = ly at *
            clear hu hi hi2 hcl hok hr1 hly2
            generalize wr.alloc (.cells y.cells.toArray 36) = wy at *
            generalize Value.agg y.cells.toArray = vy
            have HWY := Lib.hid hHWY
            have HCT := Lib.hid (HCON.out k hlm)
            have hcc : (ly != ly) = false := by simp
            have HCC : Hid (∀ p : Cls (Keep wy), Calls Try.prog 21 #[.slice a3 L.length c3, .int .i64 (k : Int)] p.w fun e w' => e = .returned (.bool ly) ∧ Below p.w.heap.size p.w w') := fun p => by
              have := ContainsInts_any (nats L) (.slice a3 L.length c3) (k : Int) p.w ((((HS33.out.below HK4.out).below HKR.out).below HWY.out).below p.h) (by rw [nats_length]; omega)
              rw [HCT.out, HLM.out] at this
              exact this
            have hne : Nonempty (Cls (Keep wy)) := ⟨⟨wy, Keep.refl wy⟩⟩
            have q34 : ∀ p : Cls (Keep wy), p.w.cell? ⟨wr.heap.size, 34, none⟩ = some (.bool ly) := fun p => below_cell p.h hL34
            have HKY : Hid (Keep w4 wy) := Keep.trans HKR.out HWY.out
            clear hHWY y0 y1 yl hL34 HLM HCT
            refine wp_region_cls (Keep wy) (by kernel_rfl) (by kernel_rfl) (Keep.drew wy) ?_
            repeat (go_big_quiet_step ((go_at_call 21; refine Calls.cls (HCC.out _))))
            refine wpQuiet_nil ?_
            rintro w7 ⟨⟨_, hw7⟩, rfl⟩
            have HK7 : Hid (Keep w4 w7) := Keep.trans HKY.out hw7
            clear hw7 q34 hne
            go_wp2
            go_roundg (gk - 1)
            case measure => omega
            case rel => exact ⟨k + 1, by go_num, by omega, by omega, HK7.out⟩
          · have HOR := Lib.hid (ownsRow_below HO4.out HKR.out)
            have HKW : Hid (Keep w3 wr) := Keep.trans HK4.out HKR.out
            have HSO := Lib.hid (SortInts_own (nats L) (.slice ao L.length co) w3.heap.size wr (by rw [nats_length]; exact HOR.out) (by rw [nats_length]; omega))
            clear hgk y0 y1 yl HCON
            go_wp2_with (fail)
            refine HSO.out.mono ?_
            rintro e w8 ⟨rfl, ho8, hg8⟩
            have HO8 : Hid (w8.ownsRow w3.heap.size 3 1 (.slice ao L.length co) (sorted L).length (ints (sorted L))) := by
              show World.ownsRow _ _ _ _ _ _ _
              rw [sorted_length]; rw [nats_length] at ho8; exact ho8
            have HK8 : Hid (Keep w3 w8) := Below.grown HKW.out hg8 (Below.size HKW.out) (fun j hj => (HOR.out.lt j hj).1)
            have HCPK : Hid (∀ p : Cls (Keep w8), Calls Try.prog 23 #[.slice ao L.length co] p.w fun e w' => e = .returned (.slice ao L.length co) ∧ Below p.w.heap.size p.w w') := fun p => CompactInts_kept (sorted L) _ p.w ((ownsRow_slAt HO8.out).below p.h) (by rw [sorted_length]; omega) (sorted_step HND.out)
            have HAWK : Hid (∀ p : Cls (Keep w8), Calls Try.prog 8 #[] p.w fun e w' => e = .returned (.bool true) ∧ Below p.w.heap.size p.w w') := fun p => awake_any p.w
            have x80 := below_cell HK8.out HX3.out.1
            have q80 : ∀ p : Cls (Keep w8), p.w.cell? ⟨w.heap.size, 0, none⟩ = some (.slice al g.lines.length cl) := fun p => below_cell p.h x80
            have hne : Nonempty (Cls (Keep w8)) := ⟨⟨w8, Keep.refl w8⟩⟩
            clear ho8 hg8 HSO HOR x80
            by_cases hL : L = []
            · have hl0 : ((L.length : Int) == 0) = true := by rw [hL]; rfl
              clear hL
              go_wp2
              refine wp_region_cls (Keep w8) (by kernel_rfl) (by kernel_rfl) (Keep.drew w8) ?_
              repeat (go_big_quiet_step (first | (go_at_call 23; refine Calls.cls (HCPK.out _)) | (go_at_call 8; refine Calls.cls (HAWK.out _))))
              refine wpQuiet_nil ?_
              rintro w9 ⟨⟨_, hw9⟩, rfl⟩
              have HK9 : Hid (Keep w3 w9) := Keep.trans HK8.out hw9
              clear hw9
              go_wp2
              go_ret
              exact ⟨rfl, HB3.out.trans (Below.mono HK9.out HB3.out.size)⟩
            · have hlp := List.length_pos_iff.2 hL
              have hl0 : ((L.length : Int) == 0) = false := by simp only [beq_eq_false_iff_ne, ne_eq]; omega
              have hlp2 : (0 : Int) < (L.length : Int) := by omega
              obtain ⟨gb, cap, rfl, hgb⟩ : ∃ gb cap, ao = some ⟨gb, 0, none⟩ ∧ cap = co ∧ w3.heap.size ≤ gb := by
                rcases HO8.out.2 with ⟨_, h0⟩ | ⟨gb, cap, cur, hv, hbs, _⟩
                · rw [sorted_length] at h0; omega
                · injection hv with h1 _ h3; exact ⟨gb, cap, h1, h3.symm, hbs⟩
              obtain ⟨rfl, hgb⟩ := hgb
              obtain ⟨z0, hz0, hz1⟩ : ∃ z0, (sorted L)[0]? = some z0 ∧ 0 ≤ z0 := by
                have h0 : 0 < (sorted L).length := by rw [sorted_length]; exact hlp
                exact ⟨_, List.getElem?_eq_getElem h0, sorted_nonneg L _ (List.getElem_mem _)⟩
              have HZC : Hid (∀ w' : World, w'.ownsRow w3.heap.size 3 1 (.slice (some ⟨gb, 0, none⟩) L.length cap) (sorted L).length (ints (sorted L)) → w'.cell? ⟨gb, 0, none⟩ = some (.int .i64 z0)) := fun w' h => by
                have h1 := ownsRow_slAt h
                obtain ⟨a, c, hv, hc⟩ := h1.formI
                obtain ⟨b', o', hab, hcell⟩ := hc 0 z0 hz0
                injection hv with e1 _ _
                rw [hab] at e1
                obtain ⟨rfl, rfl⟩ : gb = b' ∧ 0 = o' := by simpa using e1
                exact hcell
              have hzd : decide (0 ≤ z0) = true := by simp [hz1]
              obtain ⟨mx, hmx⟩ : ∃ mx, Lib.maxOf (nats L) = mx := ⟨_, rfl⟩
              have hml : mx < (g.lines.length : Int) := by
                rw [← hmx]
                refine maxOf_lt _ _ (by intro e; apply hL; have := congrArg List.length e; rw [nats_length] at this; exact List.eq_nil_of_length_eq_zero this) fun x hx => ?_
                obtain ⟨i, hi, rfl⟩ := List.mem_map.1 hx
                have := HLT.out i hi
                show (i : Int) < _
                omega
              have hmd : decide (mx < (g.lines.length : Int)) = true := by simp [hml]
              have HMX := Lib.hid hmx
              have zc8 := HZC.out w8 HO8.out
              have q81 : ∀ p : Cls (Keep w8), p.w.cell? ⟨gb, 0, none⟩ = some (.int .i64 z0) := fun p => below_cell p.h zc8
              have HMXK : Hid (∀ p : Cls (Keep w8), Calls Try.prog 24 #[.slice a3 L.length c3] p.w fun e w' => e = .returned (.int .i64 mx) ∧ Below p.w.heap.size p.w w') := fun p => by
                have := MaxInts_any (nats L) (.slice a3 L.length c3) p.w ((HS33.out.below HK8.out).below p.h) (by rw [nats_length]; omega) (by intro e; apply hL; have := congrArg List.length e; rw [nats_length] at this; exact List.eq_nil_of_length_eq_zero this)
                rw [hmx] at this
                exact this
              clear hz0 hmx hL hml hz1 zc8 HMX
              go_wp2
              refine wp_region_cls (Keep w8) (by kernel_rfl) (by kernel_rfl) (Keep.drew w8) ?_
              repeat (go_big_quiet_step (first | (go_at_call 23; refine Calls.cls (HCPK.out _)) | (go_at_call 24; refine Calls.cls (HMXK.out _)) | (go_at_call 8; refine Calls.cls (HAWK.out _))))
              refine wpQuiet_nil ?_
              rintro w9 ⟨⟨_, hw9⟩, rfl⟩
              have HK9 : Hid (Keep w3 w9) := Keep.trans HK8.out hw9
              clear hw9
              go_wp2
              go_ret
              exact ⟨rfl, HB3.out.trans (Below.mono HK9.out HB3.out.size)⟩
end Go.Proofs.Lg
