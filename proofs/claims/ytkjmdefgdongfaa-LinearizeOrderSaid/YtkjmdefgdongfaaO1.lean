/-
  The walk of LinearizeOrder.
-/
import Derived.Test.YtkjmdefgdongfaaL6
import Derived.Test.YtkjmdefgdongfaaA1
namespace Go.Proofs.Lg
open Go Go.RowKit

theorem Gr.seq_lt {g : Gr} (h : g.check = 0) : ∀ i ∈ seqL g.reach g.living, i < g.lines.length := by
  intro i hi
  have := g.living_lt i ((seqL_perm g.lv).mem_iff.1 hi)
  unfold Gr.dim at this
  rw [if_pos h] at this
  exact this

theorem Gr.seq_len {g : Gr} : (seqL g.reach g.living).length ≤ g.lines.length := by
  rw [(seqL_perm g.lv).length_eq]; exact g.living_len

theorem Gr.seq_before {g : Gr} (h : g.check = 0) (j k x y : Nat) (hjk : j < k) (hx : (seqL g.reach g.living)[k]? = some x) (hy : (seqL g.reach g.living)[j]? = some y) : g.before x y = false := by
  obtain ⟨hk, rfl⟩ := List.getElem?_eq_some_iff.1 hx
  obtain ⟨hj, rfl⟩ := List.getElem?_eq_some_iff.1 hy
  rw [Gr.before_bef h (Gr.seq_lt h _ (List.getElem_mem _)) (Gr.seq_lt h _ (List.getElem_mem _))]
  exact List.pairwise_iff_getElem.1 (seqL_pairwise g.lv) j k hj hk hjk

set_option maxRecDepth 100000 in
set_option maxHeartbeats 4000000 in
theorem order_walk (vl ve : Value) (g : Gr) (w : World) (hg : GrIn w vl ve g) :
    Calls Try.prog 3 #[.agg #[vl, ve]] w fun e w' => e = .returned (.bool true) ∧ Below w.heap.size w w' := by
  obtain ⟨al, cl, ml, rfl⟩ : ∃ a c m, vl = .slice a m c := by obtain ⟨a, c, h, _⟩ := hg.lines; exact ⟨a, c, _, h⟩
  obtain ⟨ae, ce, me, rfl⟩ : ∃ a c m, ve = .slice a m c := by obtain ⟨a, c, h, _⟩ := hg.edges; exact ⟨a, c, _, h⟩
  have hb0 : Below w.heap.size w (w.alloc (.cells #[.slice al ml cl, .slice ae me ce] 25)) := (Below.refl _ _).alloc (Nat.le_refl _) _
  have HV := Lib.hid (valid_any _ _ g _ (hg.below hb0))
  have HB0 := Lib.hid hb0
  have HI := Lib.hid hg
  have hx0 : (w.alloc (.cells #[.slice al ml cl, .slice ae me ce] 25)).cell? ⟨w.heap.size, 0, none⟩ = some (.slice al ml cl) := by simp [go_sem]
  have hx1 : (w.alloc (.cells #[.slice al ml cl, .slice ae me ce] 25)).cell? ⟨w.heap.size, 1, none⟩ = some (.slice ae me ce) := by simp [go_sem]
  have HX := Lib.hid (And.intro hx0 hx1)
  clear hg hb0 hx0 hx1
  cases hfine : g.fine with
  | false =>
    rw [hfine] at HV
    clear hfine
    go_enter Try.func3, Try.ntmps3
    go_wp2_with (fail)
    refine HV.out.mono ?_
    rintro e w1 ⟨rfl, hb1⟩
    have HB1 : Hid (Below w.heap.size w w1) := HB0.out.trans (hb1.mono HB0.out.size)
    clear hb1
    go_wp2_with (fail)
    refine (awake_any w1).mono ?_
    rintro e w2 ⟨rfl, hb2⟩
    have HB2 : Hid (Below w.heap.size w w2) := HB1.out.trans (hb2.mono HB1.out.size)
    clear hb2
    go_wp2
    go_ret
    exact ⟨rfl, HB2.out⟩
  | true =>
    rw [hfine] at HV
    obtain ⟨hbig, hck⟩ := Gr.fine_true hfine
    have HGA := Lib.hid (fun w' (h : GrIn w' (.slice al ml cl) (.slice ae me ce) g) => h.few hbig)
    have HCK := Lib.hid hck
    have HSL := Lib.hid (Gr.seq_lt hck)
    have HSB := Lib.hid (Gr.seq_before hck)
    have hfew : g.lines.length ≤ 1000000 := (HGA.out w HI.out).few
    have hsl : (seqL g.reach g.living).length ≤ 1000000 := Nat.le_trans Gr.seq_len hfew
    clear hfine hbig hck
    go_enter Try.func3, Try.ntmps3
    go_wp2_with (fail)
    refine HV.out.mono ?_
    rintro e w1 ⟨rfl, hb1⟩
    have HB1 : Hid (Below w.heap.size w w1) := HB0.out.trans (hb1.mono HB0.out.size)
    have x0 := below_cell hb1 HX.out.1
    have x1 := below_cell hb1 HX.out.2
    have hl1 := cell_lt x0
    have HSQ := Lib.hid (Sequence_any _ _ g w1 (HGA.out w1 (HI.out.below HB1.out)))
    clear hb1 HV HX
    go_wp2_with (fail)
    refine HSQ.out.mono ?_
    rintro e w2 ⟨v, rfl, hsv, hb2⟩
    have HB2 : Hid (Below w.heap.size w w2) := HB1.out.trans (hb2.mono HB1.out.size)
    have y0 := below_cell hb2 x0
    have y1 := below_cell hb2 x1
    generalize seqL g.reach g.living = L at *
    obtain ⟨av, cv, hv⟩ : ∃ a c, v = .slice a L.length c := by obtain ⟨a, c, h, _⟩ := hsv; rw [ints_length, nats_length] at h; exact ⟨a, c, h⟩
    subst hv
    have hcap : L.length ≤ cv := by obtain ⟨a, c, h, h1, _⟩ := hsv; rw [ints_length, nats_length] at h h1; injection h with _ _ h2; omega
    have hcap2 : cv ≤ 9223372036854775807 := by obtain ⟨a, c, h, _, h1, _⟩ := hsv; injection h with _ _ h2; omega
    have HSV := Lib.hid hsv
    have HY := Lib.hid (And.intro y0 y1)
    clear x0 x1 hl1 hb2 hsv y0 y1 HB1 HSQ
    go_wp2
    go_loopg [16] (L.length + 1) (fun gk i wr => ∃ k : Nat, i = .int .i64 k ∧ k ≤ L.length ∧ gk + k = L.length + 1 ∧ Keep w2 wr)
    case atStart => exact ⟨0, rfl, Nat.zero_le _, rfl, Keep.refl _⟩
    case round =>
      obtain ⟨k, rfl, hk, hgk, hK⟩ := hrel
      obtain ⟨wo, rfl⟩ : ∃ wo : World, wo = wr := ⟨_, rfl⟩
      obtain ⟨g0, rfl⟩ : ∃ g0 : Nat, g0 = gk := ⟨_, rfl⟩
      have HK := Lib.hid hK
      by_cases hlt : k < L.length
      · obtain ⟨b, off, rfl, hc⟩ := SlAt.cells_of HSV.out hlt
        have hcw := below_cell hK hc
        have hcl := cell_lt hcw
        have HLK := Lib.hid (HSL.out _ (List.getElem_mem hlt))
        have HBK := Lib.hid (fun j y (hj : j < k) => HSB.out j k _ y hj (List.getElem?_eq_getElem hlt))
        generalize hxe : L[k] = x at *
        clear hxe hc hK
        go_wp2
        go_loopg [25] (k + 1) (fun gj i wr => ∃ j : Nat, i = .int .i64 j ∧ j ≤ k ∧ gj + j = k + 1 ∧ Keep wo wr)
        case atStart => exact ⟨0, rfl, Nat.zero_le _, rfl, Keep.refl _⟩
        case round =>
          obtain ⟨j, rfl, hj, hgj, hJ⟩ := hrel
          have HJ := Lib.hid hJ
          have HJW : Hid (Keep w2 wr) := HK.out.trans hJ
          by_cases hlj : j < k
          · obtain ⟨b', off', hab, hc'⟩ := SlAt.cells_of HSV.out (show j < L.length by omega)
            obtain ⟨rfl, rfl⟩ : b = b' ∧ off = off' := by simpa using hab
            have hcj := below_cell HJW.out hc'
            have hcjl := cell_lt hcj
            have HLJ := Lib.hid (HSL.out _ (List.getElem_mem (show j < L.length by omega)))
            have HBJ := Lib.hid (HBK.out j _ hlj (List.getElem?_eq_getElem (show j < L.length by omega)))
            generalize hye : L[j]'(by omega) = y at *
            have z0 := below_cell HJW.out HY.out.1
            have z1 := below_cell HJW.out HY.out.2
            have zl := cell_lt z0
            have HBR : Hid (Below w.heap.size w wr) := HB2.out.trans (Below.mono HJW.out HB2.out.size)
            have HBF := Lib.hid (Before_ok _ _ g x y wr (HGA.out wr (HI.out.below HBR.out)) HCK.out HLK.out HLJ.out)
            rw [HBJ.out] at HBF
            clear hye hab hc' hcw hJ
            go_wp2_with (fail)
            refine HBF.out.mono ?_
            rintro e w5 ⟨rfl, hb5⟩
            have HJ5 : Hid (Keep wo w5) := HJ.out.trans hb5
            clear hb5 hcj z0 z1
            go_wp2
            go_roundg (gk - 1)
            case measure => omega
            case rel => exact ⟨j + 1, by go_num, by omega, by omega, HJ5.out⟩
          · clear hgj hJ
            go_wp2
            go_roundg (g0 - 1)
            case measure => omega
            case rel => exact ⟨k + 1, by go_num, by omega, by omega, HJW.out⟩
      · clear hgk hK
        go_wp2_with (fail)
        refine (awake_any _).mono ?_
        rintro e w6 ⟨rfl, hb6⟩
        have HB6 : Hid (Below w.heap.size w w6) := (HB2.out.trans (Below.mono HK.out HB2.out.size)).trans (hb6.mono (Nat.le_trans HB2.out.size (Below.size HK.out)))
        clear hb6
        go_wp2
        go_ret
        exact ⟨rfl, HB6.out⟩
end Go.Proofs.Lg
