/-
  LinearizeText holds: for all two graphs that can be read as data the Go function returns true, and the arguments read as they did. Conditions: none beyond the statement's own.
-/
import Derived.Test.YtclholnhkhjjaaaGreatRows
import Derived.ShutString
import Derived.ChangeOld
import Derived.Below
import Derived.Test.YtclholnhkhjjaaaGreatGAC
import Derived.Test.YtclholnhkhjjaaaGreatGBH
import Derived.Test.YtclholnhkhjjaaaGreatMT1
set_option linter.unusedVariables false
set_option linter.unusedSimpArgs false
set_option linter.unnecessarySimpa false
namespace Go.Proofs.Lh
open Go Go.RowKit Go.Proofs.Lg
open Go.Ab (RD)
theorem dGraph_in {w : World} {vl ve : Value} {g : Gr} (h : GrIn w vl ve g) : RD (Go.Bb.cellsIn w) w (.agg #[vl, ve]) (dGraph g) := by
 have h1 := RD_of_SlN h.lines (fun r hr => by obtain ⟨x, hx, rfl⟩ := List.mem_map.1 hr; exact vcells_ok (h.okl x hx)) (by omega)
 have h2 := RD_of_SlN h.edges (fun r hr => by
   obtain ⟨x, hx, rfl⟩ := List.mem_map.1 hr
   exact ⟨rfl, fun u hu => by unfold edgeCells at hu; simp at hu; rcases hu with rfl | rfl <;> rfl⟩) (by omega)
 rw [List.map_map] at h1 h2
 have e : (#[vl, ve] : Array Value) = [vl, ve].toArray := rfl
 rw [e]
 refine .agg [vl, ve] [dLines g.lines, dEdges g.edges] rfl (fun u hu => ?_) fun i u d hu hd => ?_
 · simp at hu
   rcases hu with rfl | rfl
   · exact h1.leaf rfl
   · exact h2.leaf rfl
 · match i with
   | 0 => simp at hu hd; subst hu; subst hd; exact h1
   | 1 => simp at hu hd; subst hu; subst hd; exact h2
   | i + 2 => simp at hu
theorem grAny_in {w : World} {vl ve : Value} {g : Gr} (h : GrIn w vl ve g) : GrAny g := by
 obtain ⟨a1, c1, _, k1, k2, _⟩ := h.lines
 obtain ⟨a2, c2, _, k3, k4, _⟩ := h.edges
 rw [List.length_map] at k1 k3
 exact ⟨h.okl, h.oke, by omega, by omega⟩
theorem text_walk (vl ve vl2 ve2 : Value) (g g2 : Gr) (w : World) (hg : GrIn w vl ve g) (hg2 : GrIn w vl2 ve2 g2) :
   Calls Tryz.prog 5 #[.agg #[vl, ve], .agg #[vl2, ve2]] w fun e w' => e = .returned (.bool true) ∧ Below w.heap.size w w' := by
 have h := textLaw_fn (fun g hg => linText_fn hg) (grAny_in hg) (grAny_in hg2)
 refine (h.calls (Go.Bb.cellsIn w) w [.agg #[vl, ve], .agg #[vl2, ve2]] rfl fun i v d hv hd => ?_).mono fun e w' hh => ?_
 · match i with
   | 0 => simp at hv hd; subst hv; subst hd; exact dGraph_in hg
   | 1 => simp at hv hd; subst hv; subst hd; exact dGraph_in hg2
   | i + 2 => simp at hv
 · obtain ⟨v, he, hr, hb⟩ := hh
   have := RD_sc hr
   subst this
   exact ⟨he, hb⟩
end Go.Proofs.Lh
namespace Go.Proofs.YtclholnhkhjjaaaGreat
open Go.ChangeShapes Go.WideShapes Go.ChangeAt Go.RowKit Go.Proofs.Lg
theorem own : ownKnob Tryz.prog.godebug = none := by kernel_rfl
theorem laidOut : laidOutB Tryz.prog = true := by kernel_rfl
def TextWalk : Prop := ∀ (vl ve vl2 ve2 : Value) (g g2 : Gr) (w : World), GrIn w vl ve g → GrIn w vl2 ve2 g2 → Calls Tryz.prog 5 #[.agg #[vl, ve], .agg #[vl2, ve2]] w fun e w' => e = .returned (.bool true) ∧ Below w.heap.size w w'
set_option maxRecDepth 100000 in
theorem linearizeText_lifted (walk : TextWalk) (os : Os) (started : os.Started) (H : Type) (enc : TypeId × Value → H) :
   ReturnsInHanded {} Tryz.checked os 5 .any (Rows.linearizeTextSpec.pre6 enc Tryz.prog Tryz.f5 Rows.linearizeTextRow.domain false) (Rows.linearizeTextSpec.post enc Tryz.prog Tryz.f5 false true false false) := by
 refine returnsInHanded_of_change (C := Tryz.checked) own started (by kernel_rfl) Tryz.func5
   (ChangeSpec.witness6 (enc := enc) (C := Tryz.checked) false ⟨#[], #[.agg #[.slice none 0 0, .slice none 0 0], .agg #[.slice none 0 0, .slice none 0 0]], []⟩ 8 (by kernel_rfl) (by kernel_rfl) (by kernel_rfl) (by kernel_rfl)) ?_
 intro W base args ds gs before hval0 hW hcnd _
 have hval : ∀ (j : Nat) t v, Tryz.f5.params[j]? = some t → args[j]? = some v → Value.okWide Tryz.prog W .any base t v := hval0
 have hW' := hW
 obtain ⟨p, q, hA0, hV, rfl, hfz, hnd⟩ := hW
 have hA : DataW.TrodAll enc Tryz.prog W 0 (fun _ => true) true Tryz.f5.params.toList args.toList ds p := hA0
 rw [Tryz.params5] at hA hval
 obtain ⟨v0, vs0, d0, ds0, p0, q0, hargs, rfl, rfl, h0, r0⟩ := trodAll_cons hA
 obtain ⟨v1, vs1, d1, ds1, p1, q1, hargs1, rfl, rfl, h1, r1⟩ := trodAll_cons r0
 obtain ⟨rfl, rfl, rfl⟩ := trodAll_nil r1
 obtain rfl : args = #[v0, v1] := by cases args; simp_all
 obtain ⟨rfl, rfl⟩ := trodVars_none hV
 have k0 := h0
 have k1 := h1
 have lt0 : ∀ x ∈ p0, x.block < W.heap.size := by obtain ⟨m, hm⟩ := k0; exact DataW.trod_lt m _ _ _ hm
 have lt1 : ∀ x ∈ p1, x.block < W.heap.size := by obtain ⟨m, hm⟩ := k1; exact DataW.trod_lt m _ _ _ hm
 obtain ⟨vl, ve, g, rfl, hg⟩ := graph_open (hval 0 25 v0 rfl rfl) h0
 obtain ⟨vl2, ve2, g2, rfl, hg2⟩ := graph_open (hval 1 25 v1 rfl rfl) h1
 clear hA0 hval0
 refine (walk vl ve vl2 ve2 g g2 W hg hg2).mono fun e W' ⟨he, bel⟩ => ?_
 subst he
 exact ⟨_, rfl, _, _, _, [], _, [], hW', trodAll_mk1 (shut_bool Tryz.underlying4 _), (trodAll_cons_mk (Below.trod laidOut (by kernel_rfl) (of_decide_eq_true (by kernel_rfl)) k0 bel lt0) (trodAll_cons_mk (Below.trod laidOut (by kernel_rfl) (of_decide_eq_true (by kernel_rfl)) k1 bel lt1) trodAll_mk0)), rfl, bel.frame _, fun h => by cases h⟩
theorem linearizeText_over (walk : TextWalk) : Rows.linearizeTextRow.holds Tryz.pinned (OpenSpec.ofChange Rows.linearizeTextSpec) :=
 OpenClaim.holds_of_wide 5 Tryz.f5 rfl rfl rfl rfl rfl rfl rfl ⟨rfl, rfl, rfl, rfl, rfl⟩ rfl rfl rfl rfl rfl (by kernel_rfl) Tryz.func5 (by kernel_rfl)
   (of_decide_eq_true (by kernel_rfl)) (by unfold Func.isWrapper; first | (rw [if_pos (by decide +kernel)]; kernel_rfl) | (rw [if_neg (by decide +kernel)]; exact ⟨rfl, rfl⟩))
   (fun os started H enc _ => linearizeText_lifted walk os started H enc)
theorem linearizeText_holds : Rows.LinearizeTextSaid := linearizeText_over fun vl ve vl2 ve2 g g2 w hg hg2 => Go.Proofs.Lh.text_walk vl ve vl2 ve2 g g2 w hg hg2
#print axioms linearizeText_holds
end Go.Proofs.YtclholnhkhjjaaaGreat
