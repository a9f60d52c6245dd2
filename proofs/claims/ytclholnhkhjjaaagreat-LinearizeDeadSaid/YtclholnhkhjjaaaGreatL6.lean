/-
  Part L6 of this claim's proof. Joined by merge.py from the texts of wip/tpl.
-/
import Derived.Test.YtclholnhkhjjaaaGreatL1
import Derived.Test.YtclholnhkhjjaaaGreatL3
set_option linter.unusedVariables false
set_option linter.unusedSimpArgs false
set_option linter.unnecessarySimpa false
namespace Go.Proofs.Lg
open Go Go.RowKit

def Gr.fine (g : Gr) : Bool := !g.big && decide (g.check = 0)
theorem Gr.fine_true {g : Gr} (h : g.fine = true) : g.big = false ∧ g.check = 0 := by
  unfold Gr.fine at h
  simpa using h

set_option maxRecDepth 100000 in
set_option maxHeartbeats 2000000 in
theorem valid_any (vl ve : Value) (g : Gr) (w : World) (hg : GrIn w vl ve g) :
    Calls Tryz.prog 17 #[.agg #[vl, ve]] w fun e w' => e = .returned (.bool g.fine) ∧ Below w.heap.size w w' := by
  obtain ⟨al, cl, ml, rfl⟩ : ∃ a c m, vl = .slice a m c := by obtain ⟨a, c, h, _⟩ := hg.lines; exact ⟨a, c, _, h⟩
  obtain ⟨ae, ce, me, rfl⟩ : ∃ a c m, ve = .slice a m c := by obtain ⟨a, c, h, _⟩ := hg.edges; exact ⟨a, c, _, h⟩
  have hb0 : Below w.heap.size w ((w.alloc (.cells #[.slice al ml cl, .slice ae me ce] 25)).alloc (.cells #[.slice al ml cl, .slice ae me ce] 25)) := ((Below.refl _ _).alloc (Nat.le_refl _) _).alloc (by simp) _
  have HG := Lib.hid (great_one _ _ (w.heap.size + 1) 1 g _ (hg.below hb0) (by simp [go_sem]) (by simp [go_sem]))
  have HB0 := Lib.hid hb0
  have HI := Lib.hid hg
  have hx0 : ((w.alloc (.cells #[.slice al ml cl, .slice ae me ce] 25)).alloc (.cells #[.slice al ml cl, .slice ae me ce] 25)).cell? ⟨w.heap.size, 0, none⟩ = some (.slice al ml cl) := alloc_cell (by simp [go_sem]) _
  have hx1 : ((w.alloc (.cells #[.slice al ml cl, .slice ae me ce] 25)).alloc (.cells #[.slice al ml cl, .slice ae me ce] 25)).cell? ⟨w.heap.size, 1, none⟩ = some (.slice ae me ce) := alloc_cell (by simp [go_sem]) _
  have HX := Lib.hid (And.intro hx0 hx1)
  clear hg hb0 hx0 hx1
  cases hbig : g.big with
  | true =>
    have HF : Hid (g.fine = false) := by show _ = _; unfold Gr.fine; rw [hbig]; rfl
    rw [hbig] at HG
    clear hbig
    go_enter Tryz.func17, Tryz.ntmps17
    go_wp2_with (fail)
    refine HG.out.mono ?_
    rintro e w1 ⟨rfl, hb1⟩
    have HB1 : Hid (Below w.heap.size w w1) := HB0.out.trans (hb1.mono HB0.out.size)
    clear hb1
    go_wp2
    go_ret
    rw [HF.out]
    exact ⟨rfl, HB1.out⟩
  | false =>
    rw [hbig] at HG
    have HF : Hid (g.fine = decide (g.check = 0)) := by show _ = _; unfold Gr.fine; rw [hbig]; rfl
    have HFW := Lib.hid (fun w' (h : GrIn w' (.slice al ml cl) (.slice ae me ce) g) => h.few hbig)
    clear hbig
    have key : ∀ (b : Bool), (g.check == 0) = b → decide (g.check = 0) = b → Calls Tryz.prog 17 #[.agg #[.slice al ml cl, .slice ae me ce]] w fun e w' => e = .returned (.bool b) ∧ Below w.heap.size w w' := by
      intro b hcb _
      go_enter Tryz.func17, Tryz.ntmps17
      go_wp2_with (fail)
      refine HG.out.mono ?_
      rintro e w1 ⟨rfl, hb1⟩
      have x0 := below_cell hb1 HX.out.1
      have x1 := below_cell hb1 HX.out.2
      have hl := cell_lt x0
      have HB1 : Hid (Below w.heap.size w w1) := HB0.out.trans (hb1.mono HB0.out.size)
      have HC := Lib.hid (refCheck_any _ _ g w1 (HFW.out w1 (HI.out.below HB1.out)))
      clear hb1
      go_wp2_with (fail)
      refine HC.out.mono ?_
      rintro e w2 ⟨rfl, hb2⟩
      have HB2 : Hid (Below w.heap.size w w2) := HB1.out.trans (hb2.mono HB1.out.size)
      clear hb2
      go_wp2
      go_ret
      exact ⟨rfl, HB2.out⟩
    rw [HF.out]
    by_cases h : g.check = 0
    · have := key true (by simp [h]) (by simp [h])
      simpa [h] using this
    · have := key false (by simp [h]) (by simp [h])
      simpa [h] using this
end Go.Proofs.Lg
