/-
  The walk of LinearizeCertain.
-/
import Derived.Test.YtkjmdefgdongfaaP5
import Derived.Test.YtkjmdefgdongfaaE2
import Derived.Test.YtkjmdefgdongfaaL6
import Derived.Test.YtkjmdefgdongfaaA1
namespace Go.Proofs.Lg
open Go Go.RowKit

theorem Gr.liv_get {g : Gr} {k : Nat} (h : k < g.lines.length) : g.liv k = g.lines[k].living := by
  unfold Gr.liv; rw [List.getElem?_eq_getElem h]; rfl

set_option maxRecDepth 100000 in
set_option maxHeartbeats 8000000 in
theorem certain_walk (vl ve : Value) (g : Gr) (w : World) (hg : GrIn w vl ve g) :
    Calls Try.prog 4 #[.agg #[vl, ve]] w fun e w' => e = .returned (.bool true) ∧ Below w.heap.size w w' := by
  obtain ⟨al, cl, hvl, hl3⟩ : ∃ a c, vl = .slice a g.lines.length c ∧ g.lines.length ≤ c ∧ c ≤ 9223372036854775807 ∧ (g.lines.map Vtx.cells ≠ [] → ∃ b off, a = some ⟨b, off, none⟩ ∧ ∀ (i : Nat) (u : List Value), (g.lines.map Vtx.cells)[i]? = some u → w.rangeAt b (off + i * 35) u) := by
    obtain ⟨a, c, h, h1, h2, h3⟩ := hg.lines; exact ⟨a, c, by simpa using h, by simpa using h1, h2, h3⟩
  obtain ⟨hcap, hcap2, hl3⟩ := hl3
  obtain ⟨ae, ce, hve⟩ : ∃ a c, ve = .slice a g.edges.length c := by obtain ⟨a, c, h, _⟩ := hg.edges; exact ⟨a, c, by simpa using h⟩
  subst hvl hve
  have HL3 := Lib.hid hl3
  have hb0 : Below w.heap.size w (w.alloc (.cells #[.slice al g.lines.length cl, .slice ae g.edges.length ce] 25)) := (Below.refl _ _).alloc (Nat.le_refl _) _
  have HV := Lib.hid (valid_any _ _ g _ (hg.below hb0))
  have HB0 := Lib.hid hb0
  have HI := Lib.hid hg
  have hx0 : (w.alloc (.cells #[.slice al g.lines.length cl, .slice ae g.edges.length ce] 25)).cell? ⟨w.heap.size, 0, none⟩ = some (.slice al g.lines.length cl) := by simp [go_sem]
  have hx1 : (w.alloc (.cells #[.slice al g.lines.length cl, .slice ae g.edges.length ce] 25)).cell? ⟨w.heap.size, 1, none⟩ = some (.slice ae g.edges.length ce) := by simp [go_sem]
  have HX := Lib.hid (And.intro hx0 hx1)
  clear hg hb0 hx0 hx1 hl3
  cases hfine : g.fine with
  | false =>
    rw [hfine] at HV
    clear hfine hcap hcap2
    go_enter Try.func4, Try.ntmps4
    go_wp2_with (fail)
    refine HV.out.mono ?_
    rintro e w1 ⟨rfl, hb1⟩
    have HB1 : Hid (Below w.heap.size w w1) := HB0.out.trans (hb1.mono HB0.out.size)
    clear hb1
    go_wp2_with (fail)
    refine (awake_any w1).mono ?_
    rintro e w2 ⟨rfl, hb2⟩
    have HB2 : Hid (Below w.heap.size w w2) := HB1.out.trans (hb2.mono HB1.out.size)
    clear hb2
    go_wp2
    go_ret
    exact ⟨rfl, HB2.out⟩
  | true =>
    rw [hfine] at HV
    obtain ⟨hbig, hck⟩ := Gr.fine_true hfine
    have HGA := Lib.hid (fun w' (h : GrIn w' (.slice al g.lines.length cl) (.slice ae g.edges.length ce) g) => h.few hbig)
    have HCK := Lib.hid hck
    have hfew : g.lines.length ≤ 1000000 := (HGA.out w HI.out).few
    have HCERT := Lib.hid (Gr.cert_iff hck)
    have HRG : Hid (RegsGood (regionsL g.reach g.living)) := regsGood g hfew
    have hrl := regs_len g hfew
    clear hfine hbig hck
    go_enter Try.func4, Try.ntmps4
    go_wp2_with (fail)
    refine HV.out.mono ?_
    rintro e w1 ⟨rfl, hb1⟩
    have HB1 : Hid (Below w.heap.size w w1) := HB0.out.trans (hb1.mono HB0.out.size)
    have HX1 := Lib.hid (And.intro (below_cell hb1 HX.out.1) (below_cell hb1 HX.out.2))
    have x0 := HX1.out.1
    have x1 := HX1.out.2
    have xl := cell_lt x0
    clear hb1 HV HX
    go_wp2
    clear x0 x1 xl
    go_loopg [3, 18] (g.lines.length + 1) (fun gk ce i wr => ∃ (k : Nat) (cb : Bool), i = .int .i64 k ∧ ce = .bool cb ∧ cb = g.certK k ∧ k ≤ g.lines.length ∧ gk + k = g.lines.length + 1 ∧ Keep w1 wr)
    case atStart => exact ⟨0, true, rfl, rfl, rfl, Nat.zero_le _, rfl, Keep.refl _⟩
    case round =>
      obtain ⟨k, cb, rfl, rfl, hcb, hk, hgk, hK⟩ := hrel
      obtain ⟨wo, rfl⟩ : ∃ wo : World, wo = wr := ⟨_, rfl⟩
      obtain ⟨g0, rfl⟩ : ∃ g0 : Nat, g0 = gk := ⟨_, rfl⟩
      have HK := Lib.hid hK
      have HCB := Lib.hid hcb
      have x0 := below_cell hK HX1.out.1
      have x1 := below_cell hK HX1.out.2
      have xl := cell_lt x0
      have HBO : Hid (Below w.heap.size w wo) := HB1.out.trans (Below.mono hK HB1.out.size)
      clear hK hcb
      by_cases hlt : k < g.lines.length
      · obtain ⟨b, off, rfl, hc⟩ := HL3.out (by intro e; rw [List.map_eq_nil_iff] at e; simp [e] at hlt)
        have HC := Lib.hid hc
        have hok := (HI.out.okl g.lines[k] (List.getElem_mem _)).1
        have hr1 := rangeAt_below HBO.out (hc k g.lines[k].cells (by rw [List.getElem?_map, List.getElem?_eq_getElem hlt]; rfl))
        have HLV : Hid (g.liv k = g.lines[k].living) := Gr.liv_get hlt
        generalize g.lines[k] = x at hok hr1 HLV
        have hu := Try.underlying36
        have hcl := Vtx.cells_length hok
        have hi : (Try.prog.info? 36).map (·.size) = some x.cells.length := by rw [size_Vertex, hcl]
        have hi2 : (Try.prog.info? 36).map (·.size) = some x.cells.toArray.size := by rw [size_Vertex]; simp [hcl]
        clear hc
        go_wp2_with (first | (refine wpList_load_mid rfl _ _ rfl _ _ rfl _ _ hr1 hu rfl hi ?_; simp only [Act.put, List.setIfInBounds_toArray, List.set_cons_zero, List.set_cons_succ]) | (refine wpList_store_mid rfl 36 _ _ rfl _ _ x.cells.toArray rfl rfl (there_alloc_new _ _ _ _ (by simp [hcl])) hi2 (all_oneCell_toArray x.cells_one) ?_; rw [setCells_alloc_whole _ _ _ _ (by simp [hcl])]; simp only [Act.put]))
        have HKX : Hid (Keep wo (wo.alloc (.cells x.cells.toArray 36))) := (Below.refl _ _).alloc (Nat.le_refl _) _
        have HXL : Hid ((wo.alloc (.cells x.cells.toArray 36)).cell? ⟨wo.heap.size, 34, none⟩ = some (.bool x.living)) := by
          show _ = _
          rw [cell_of_heap (heap_alloc_new wo _)]; exact Vtx.cells_living hok
        generalize x.living = lx at *
        obtain ⟨wx, hwx⟩ : ∃ wx, wx = wo.alloc (.cells x.cells.toArray 36) := ⟨_, rfl⟩
        rw [← hwx] at HKX HXL
        have HWX := Lib.hid hwx
        clear hwx hu hcl hi hi2 hr1 hok x0 x1 xl
        rw [← HWX.out]
        generalize Value.agg x.cells.toArray = vx
        go_loopg [3, 28] (k + 1) (fun gk ce i wr => ∃ (m : Nat) (cd : Bool), i = .int .i64 m ∧ ce = .bool cd ∧ cd = (g.certK k && g.certJ k m) ∧ m ≤ k ∧ gk + m = k + 1 ∧ Keep wx wr)
        case atStart => exact ⟨0, cb, rfl, rfl, by rw [HCB.out]; simp [Gr.certJ], Nat.zero_le _, rfl, Keep.refl _⟩
        case round =>
          obtain ⟨m, cd, rfl, rfl, hcd, hm, hgm, hJ⟩ := hrel
          have HCD := Lib.hid hcd
          have HKO : Hid (Keep w1 wr) := HK.out.trans (HKX.out.trans hJ)
          have HBR : Hid (Below w.heap.size w wr) := HB1.out.trans (Below.mono HKO.out HB1.out.size)
          have y0 := below_cell HKO.out HX1.out.1
          have y1 := below_cell HKO.out HX1.out.2
          have yl := cell_lt y0
          have yx := below_cell hJ HXL.out
          have yxl := cell_lt yx
          have HJ := Lib.hid hJ
          clear hJ hcd
          by_cases hlm : m < k
          · have hok := (HI.out.okl (g.lines[m]'(by omega)) (List.getElem_mem _)).1
            have hr1 := rangeAt_below HBR.out (HC.out m (g.lines[m]'(by omega)).cells (by rw [List.getElem?_map, List.getElem?_eq_getElem (by omega)]; rfl))
            have HLM : Hid (g.liv m = (g.lines[m]'(by omega)).living) := Gr.liv_get (by omega)
            generalize g.lines[m]'(by omega) = y at hok hr1 HLM
            have hu := Try.underlying36
            have hcl := Vtx.cells_length hok
            have hi : (Try.prog.info? 36).map (·.size) = some y.cells.length := by rw [size_Vertex, hcl]
            have hi2 : (Try.prog.info? 36).map (·.size) = some y.cells.toArray.size := by rw [size_Vertex]; simp [hcl]
            have hly2 := Lib.hid (Vtx.cells_living hok)
            go_upto_region 10 with (first | (refine wpList_load_mid rfl _ _ rfl _ _ rfl _ _ hr1 hu rfl hi ?_; simp only [Act.put, List.setIfInBounds_toArray, List.set_cons_zero, List.set_cons_succ]) | (refine wpList_store_mid rfl 36 _ _ rfl _ _ y.cells.toArray rfl rfl (there_alloc_new _ _ _ _ (by simp [hcl])) hi2 (all_oneCell_toArray y.cells_one) ?_; rw [setCells_alloc_whole _ _ _ _ (by simp [hcl])]; simp only [Act.put]))
            have hHWY : Below wr.heap.size wr (wr.alloc (.cells y.cells.toArray 36)) := (Below.refl _ _).alloc (Nat.le_refl _) _
            have hL34 : (wr.alloc (.cells y.cells.toArray 36)).cell? ⟨wr.heap.size, 34, none⟩ = some (.bool y.living) := by rw [cell_of_heap (heap_alloc_new wr _)]; exact hly2.out
            generalize y.living = ly at *
            clear hu hi hi2 hcl hok hr1 hly2
            generalize wr.alloc (.cells y.cells.toArray 36) = wy at *
            generalize Value.agg y.cells.toArray = vy
            have HWY := Lib.hid hHWY
            have z0 := below_cell HWY.out y0
            have z1 := below_cell HWY.out y1
            have zx := below_cell HWY.out yx
            have zl := cell_lt z0
            have zxl := cell_lt zx
            have zyl := cell_lt hL34
            clear hHWY y0 y1 yl yx yxl
            have HGY := Lib.hid (HGA.out _ ((HI.out.below HBR.out).below HWY.out))
            have HF1 := Lib.hid (Before_ok _ _ g k m _ HGY.out HCK.out hlt (by omega))
            have HP : Hid ((g.certK k && g.certJ k (m + 1)) = ((g.certK k && g.certJ k m) && g.okP k m)) := by show _ = _; rw [Gr.certJ_succ, Bool.and_assoc]
            have HJW : Hid (Keep wx wy) := HJ.out.trans HWY.out
            cases cd with
            | false =>
              go_wp2_with (fail)
              go_roundg (gk - 1)
              case measure => omega
              case rel => exact ⟨m + 1, false, by go_num, rfl, by rw [HP.out, ← HCD.out]; rfl, by omega, by omega, HJW.out⟩
            | true =>
              cases lx with
              | false =>
                go_wp2_with (fail)
                go_roundg (gk - 1)
                case measure => omega
                case rel => exact ⟨m + 1, true, by go_num, rfl, by rw [HP.out, ← HCD.out]; unfold Gr.okP; rw [HLV.out]; rfl, by omega, by omega, HJW.out⟩
              | true =>
                cases ly with
                | false =>
                  go_wp2_with (fail)
                  go_roundg (gk - 1)
                  case measure => omega
                  case rel => exact ⟨m + 1, true, by go_num, rfl, by rw [HP.out, ← HCD.out]; unfold Gr.okP; rw [HLM.out]; cases g.liv k <;> rfl, by omega, by omega, HJW.out⟩
                | true =>
                  cases hb1 : g.before k m with
                  | true =>
                    rw [hb1] at HF1
                    have HBQ := Lib.hid hb1
                    clear hb1
                    go_wp2_with (fail)
                    refine HF1.out.mono ?_
                    rintro e w5 ⟨rfl, hb5⟩
                    have HJ5 : Hid (Keep wx w5) := HJW.out.trans hb5
                    clear hb5 z0 z1 zx hL34
                    go_wp2
                    go_roundg (gk - 1)
                    case measure => omega
                    case rel => exact ⟨m + 1, true, by go_num, rfl, by rw [HP.out, ← HCD.out]; unfold Gr.okP; rw [HBQ.out]; cases g.liv k <;> cases g.liv m <;> rfl, by omega, by omega, HJ5.out⟩
                  | false =>
                    rw [hb1] at HF1
                    have HBQ := Lib.hid hb1
                    clear hb1
                    go_wp2_with (fail)
                    refine HF1.out.mono ?_
                    rintro e w5 ⟨rfl, hb5⟩
                    have HJ5 : Hid (Keep wx w5) := HJW.out.trans hb5
                    have HF2 := Lib.hid (Before_ok _ _ g m k w5 (HGY.out.below hb5) HCK.out (by omega) hlt)
                    have q0 := below_cell hb5 z0
                    have q1 := below_cell hb5 z1
                    have ql := cell_lt q0
                    obtain ⟨bb, hbb⟩ : ∃ bb, g.before m k = bb := ⟨_, rfl⟩
                    rw [hbb] at HF2
                    have HBB := Lib.hid hbb
                    clear hbb hb5 z0 z1 zx hL34 zl zxl zyl
                    go_wp2_with (fail)
                    refine HF2.out.mono ?_
                    rintro e w6 ⟨rfl, hb6⟩
                    have HJ6 : Hid (Keep wx w6) := HJ5.out.trans hb6
                    clear hb6 q0 q1 ql
                    go_wp2
                    go_roundg (gk - 1)
                    case measure => omega
                    case rel => exact ⟨m + 1, bb, by go_num, rfl, by rw [HP.out, ← HCD.out]; unfold Gr.okP; rw [HBQ.out, HBB.out, HLV.out, HLM.out]; cases bb <;> rfl, by omega, by omega, HJ6.out⟩
          · have hmk : m = k := by omega
            have HCD2 : Hid (cd = g.certK (k + 1)) := by show _ = _; rw [HCD.out, Gr.certK_succ, hmk]
            clear hgm y0 y1 yl yx yxl
            go_wp2
            go_roundg (g0 - 1)
            case measure => omega
            case rel => exact ⟨k + 1, cd, by go_num, rfl, HCD2.out, by omega, by omega, HKO.out⟩
      · have hkl : k = g.lines.length := by omega
        subst hkl
        have HCB2 : Hid (cb = !((regionsL g.reach g.living).any (·.conflict))) := by show _ = _; rw [HCB.out, HCERT.out]
        have HRGN := Lib.hid (Regions_any _ _ g wo (HGA.out wo (HI.out.below HBO.out)))
        clear HCB HCERT hgk hlt hk
        go_wp2_with (fail)
        refine HRGN.out.mono ?_
        rintro e w3 ⟨v, rfl, hr3, hb3⟩
        have HB3 : Hid (Below w.heap.size w w3) := HBO.out.trans (hb3.mono HBO.out.size)
        clear HRGN
        generalize regionsL g.reach g.living = regs at *
        obtain ⟨av, cv, rfl, hcs⟩ := RegsIn.cells hr3
        have HRI := Lib.hid hr3
        have HCS := Lib.hid hcs
        clear hr3 hcs hb3 x0 x1 xl
        go_wp2
        go_loopg [62] (regs.length + 1) (fun gk i wr => ∃ k : Nat, i = .int .i64 k ∧ k ≤ regs.length ∧ gk + k = regs.length + 1 ∧ Keep w3 wr)
        case atStart => exact ⟨0, rfl, Nat.zero_le _, rfl, Keep.refl _⟩
        case round =>
          obtain ⟨k, rfl, hk, hgk, hK⟩ := hrel
          have HKR := Lib.hid hK
          by_cases hlt : k < regs.length
          · have hek := List.getElem?_eq_getElem hlt
            obtain ⟨b, off, al4, nl, cl4, ay, ny, cy, rfl, p0, p1, p2, s1, t1⟩ := HCS.out k _ hek
            obtain ⟨hgood, hsm⟩ := HRG.out.1 _ (List.getElem_mem hlt)
            have HPR : Hid (0 < k → regs[k].conflict = false → ∃ pr, regs[k - 1]? = some pr ∧ pr.conflict = true) := fun h0 hcf => by
              have hk1 : k - 1 < regs.length := by omega
              refine ⟨regs[k - 1], List.getElem?_eq_getElem hk1, ?_⟩
              have := alter_get true regs (k - 1) regs[k - 1] regs[k] HRG.out.2 (List.getElem?_eq_getElem hk1) (by rw [show k - 1 + 1 = k by omega]; exact hek)
              rcases this with h | h
              · exact h
              · rw [hcf] at h; cases h
            generalize regs[k] = r at *
            have hnl : nl = r.lines.length := by obtain ⟨a, c, h, _⟩ := s1; injection h with _ h2 _; rw [h2, ints_length, nats_length]
            have hny : ny = r.sides.length := by obtain ⟨us, ⟨a, c, h, _⟩, h2, _⟩ := t1; injection h with _ h3 _; rw [h3, h2, List.length_map]
            have q0 := below_cell hK p0
            have q1 := below_cell hK p1
            have q2 := below_cell hK p2
            have ql := cell_lt q0
            have hbx : Below wr.heap.size wr (wr.alloc (.cells #[.bool r.conflict, .slice al4 nl cl4, .slice ay ny cy] 41)) := (Below.refl _ _).alloc (Nat.le_refl _) _
            have HREF := Lib.hid (refLines_any r.conflict (.slice al4 nl cl4) (.slice ay ny cy) r _ ((s1.below hK).below hbx) ((t1.below hK).below hbx) hsm)
            have HBX := Lib.hid hbx
            have hall : r.all.length ≠ 0 := fun e => hgood.all_ne (List.eq_nil_of_length_eq_zero e)
            have hA0 : ((r.all.length : Int) == 0) = false := by simp only [beq_eq_false_iff_ne, ne_eq]; omega
            generalize r.all.length = na at *
            have e0 : (wr.alloc (.cells #[.bool r.conflict, .slice al4 nl cl4, .slice ay ny cy] 41)).cell? ⟨wr.heap.size, 0, none⟩ = some (.bool r.conflict) := by rw [cell_of_heap (heap_alloc_new wr _)]; rfl
            have e1 : (wr.alloc (.cells #[.bool r.conflict, .slice al4 nl cl4, .slice ay ny cy] 41)).cell? ⟨wr.heap.size, 1, none⟩ = some (.slice al4 nl cl4) := by rw [cell_of_heap (heap_alloc_new wr _)]; rfl
            have e2 : (wr.alloc (.cells #[.bool r.conflict, .slice al4 nl cl4, .slice ay ny cy] 41)).cell? ⟨wr.heap.size, 2, none⟩ = some (.slice ay ny cy) := by rw [cell_of_heap (heap_alloc_new wr _)]; rfl
            clear p0 p1 p2 s1 t1 hK hbx hek hall hsm
            rcases hgood with ⟨hcf, hln, hsd⟩ | ⟨hcf, hln, hsd, _⟩
            · have hnl0 : ((nl : Int) == 0) = false := by have := List.length_pos_iff.2 hln; simp; omega
              have hny0 : ny = 0 := by rw [hny, hsd]; rfl
              rw [hcf] at q0 e0 e1 e2 HREF HBX
              subst hny0
              by_cases hk0 : k = 0
              · have hd0 : decide ((0 : Int) < (k : Int)) = false := by simp [hk0]
                have hd1 : decide (0 < k) = false := by simp [hk0]
                clear hcf hln hsd hnl hny hk0 HPR
                go_wp2_with (fail)
                refine HREF.out.mono ?_
                rintro e w5 ⟨v5, rfl, ho5, hb5⟩
                obtain ⟨a5, c5, hv5⟩ := ownsRow_form ho5
                subst hv5
                have f0 := below_cell hb5 e0
                have f1 := below_cell hb5 e1
                have f2 := below_cell hb5 e2
                have fl := cell_lt f0
                have HK5 : Hid (Keep w3 w5) := Keep.trans HKR.out (Keep.trans HBX.out hb5)
                clear e0 e1 e2 hb5 ho5 q0 q1 q2
                go_wp2
                go_roundg (gk - 1)
                case measure => omega
                case rel => exact ⟨k + 1, by go_num, by omega, by omega, HK5.out⟩
              · have hd0 : decide ((0 : Int) < (k : Int)) = true := by simp; omega
                have hd1 : decide (0 < k) = true := by simp; omega
                obtain ⟨pr, hpr, hpc⟩ := HPR.out (by omega) hcf
                obtain ⟨b', off', _, _, _, _, _, _, hab, pp, _⟩ := HCS.out (k - 1) pr hpr
                obtain ⟨rfl, rfl⟩ : b = b' ∧ off = off' := by simpa using hab
                rw [hpc] at pp
                have hprev := below_cell HKR.out pp
                have hprev2 : wr.cell? ⟨b, off + ((k : Int) - 1).toNat * 3, none⟩ = some (.bool true) := by rw [show ((k : Int) - 1).toNat = k - 1 by omega]; exact hprev
                have hk2 : (0 : Int) ≤ (k : Int) - 1 := by omega
                have hk3 : (k : Int) - 1 < regs.length := by omega
                have hk4 : 0 < k := by omega
                clear hcf hln hsd hnl hny hk0 HPR hpr hpc hab pp
                go_wp2_with (fail)
                refine HREF.out.mono ?_
                rintro e w5 ⟨v5, rfl, ho5, hb5⟩
                obtain ⟨a5, c5, hv5⟩ := ownsRow_form ho5
                subst hv5
                have f0 := below_cell hb5 e0
                have f1 := below_cell hb5 e1
                have f2 := below_cell hb5 e2
                have fl := cell_lt f0
                have HK5 : Hid (Keep w3 w5) := Keep.trans HKR.out (Keep.trans HBX.out hb5)
                have fp := below_cell hb5 (alloc_cell hprev (.cells #[.bool false, .slice al4 nl cl4, .slice ay 0 cy] 41))
                have fp2 := below_cell hb5 (alloc_cell hprev2 (.cells #[.bool false, .slice al4 nl cl4, .slice ay 0 cy] 41))
                have fpl := cell_lt fp
                clear e0 e1 e2 hb5 ho5 q0 q1 q2 hprev hprev2
                go_wp2
                go_roundg (gk - 1)
                case measure => omega
                case rel => exact ⟨k + 1, by go_num, by omega, by omega, HK5.out⟩
            · have hnl0 : nl = 0 := by rw [hnl, hln]; rfl
              have hny0 : ((ny : Int) == 0) = false := by have := List.length_pos_iff.2 hsd; simp; omega
              rw [hcf] at q0 e0 e1 e2 HREF HBX
              subst hnl0
              clear hcf hln hsd hnl hny HPR
              by_cases hk0 : k = 0
              · have hd0 : decide ((0 : Int) < (k : Int)) = false := by simp [hk0]
                have hd1 : decide (0 < k) = false := by simp [hk0]
                clear hk0
                go_wp2_with (fail)
                refine HREF.out.mono ?_
                rintro e w5 ⟨v5, rfl, ho5, hb5⟩
                obtain ⟨a5, c5, hv5⟩ := ownsRow_form ho5
                subst hv5
                have f0 := below_cell hb5 e0
                have f1 := below_cell hb5 e1
                have f2 := below_cell hb5 e2
                have fl := cell_lt f0
                have HK5 : Hid (Keep w3 w5) := Keep.trans HKR.out (Keep.trans HBX.out hb5)
                clear e0 e1 e2 hb5 ho5 q0 q1 q2
                go_wp2
                go_roundg (gk - 1)
                case measure => omega
                case rel => exact ⟨k + 1, by go_num, by omega, by omega, HK5.out⟩
              · have hd0 : decide ((0 : Int) < (k : Int)) = true := by simp; omega
                have hd1 : decide (0 < k) = true := by simp; omega
                clear hk0
                go_wp2_with (fail)
                refine HREF.out.mono ?_
                rintro e w5 ⟨v5, rfl, ho5, hb5⟩
                obtain ⟨a5, c5, hv5⟩ := ownsRow_form ho5
                subst hv5
                have f0 := below_cell hb5 e0
                have f1 := below_cell hb5 e1
                have f2 := below_cell hb5 e2
                have fl := cell_lt f0
                have HK5 : Hid (Keep w3 w5) := Keep.trans HKR.out (Keep.trans HBX.out hb5)
                clear e0 e1 e2 hb5 ho5 q0 q1 q2
                go_wp2
                go_roundg (gk - 1)
                case measure => omega
                case rel => exact ⟨k + 1, by go_num, by omega, by omega, HK5.out⟩
          · clear hgk
            have HCF := Lib.hid (ContainsFuncRegion_any regs _ wr (HRI.out.below HKR.out) (by omega))
            have HB4 : Hid (Below w.heap.size w wr) := HB3.out.trans (Below.mono HKR.out HB3.out.size)
            generalize regs.any (·.conflict) = an at *
            cases an with
            | true =>
              obtain rfl : cb = false := HCB2.out
              go_wp2_with (fail)
              refine HCF.out.mono ?_
              rintro e w5 ⟨rfl, hb5⟩
              have HB5 : Hid (Below w.heap.size w w5) := HB4.out.trans (hb5.mono HB4.out.size)
              clear hb5
              go_wp2_with (fail)
              refine (awake_any _).mono ?_
              rintro e w6 ⟨rfl, hb6⟩
              have HB6 : Hid (Below w.heap.size w w6) := HB5.out.trans (hb6.mono HB5.out.size)
              clear hb6
              go_wp2
              go_ret
              exact ⟨rfl, HB6.out⟩
            | false =>
              obtain rfl : cb = true := HCB2.out
              go_wp2_with (fail)
              refine HCF.out.mono ?_
              rintro e w5 ⟨rfl, hb5⟩
              have HB5 : Hid (Below w.heap.size w w5) := HB4.out.trans (hb5.mono HB4.out.size)
              clear hb5
              go_wp2_with (fail)
              refine (awake_any _).mono ?_
              rintro e w6 ⟨rfl, hb6⟩
              have HB6 : Hid (Below w.heap.size w w6) := HB5.out.trans (hb6.mono HB5.out.size)
              clear hb6
              go_wp2
              go_ret
              exact ⟨rfl, HB6.out⟩
end Go.Proofs.Lg
