/-
  LinearizeRegions holds: for every graph that can be read as data the Go function returns true, and the argument reads as it did. Conditions: none beyond the statement's own.
-/
import Derived.Test.YtclholnhkhjjaaaGreatRows
import Derived.ShutString
import Derived.ChangeOld
import Derived.Below
import Derived.Test.YtclholnhkhjjaaaGreatF1
import Derived.Test.YtclholnhkhjjaaaGreatZ1
set_option linter.unusedVariables false
set_option linter.unusedSimpArgs false
set_option linter.unnecessarySimpa false
namespace Go.Proofs.YtclholnhkhjjaaaGreat
open Go.ChangeShapes Go.WideShapes Go.ChangeAt Go.RowKit Go.Proofs.Lg

theorem own : ownKnob Tryz.prog.godebug = none := by kernel_rfl
theorem laidOut : laidOutB Tryz.prog = true := by kernel_rfl

def RegionsWalk : Prop := ∀ (vl ve : Value) (g : Gr) (w : World), GrIn w vl ve g → Calls Tryz.prog 3 #[.agg #[vl, ve]] w fun e w' => e = .returned (.bool true) ∧ Below w.heap.size w w'

set_option maxRecDepth 100000 in
theorem linearizeRegions_lifted (walk : RegionsWalk) (os : Os) (started : os.Started) (H : Type) (enc : TypeId × Value → H) :
    ReturnsInHanded {} Tryz.checked os 3 .any (Rows.linearizeRegionsSpec.pre6 enc Tryz.prog Tryz.f3 Rows.linearizeRegionsRow.domain false) (Rows.linearizeRegionsSpec.post enc Tryz.prog Tryz.f3 false true false false) := by
  refine returnsInHanded_of_change (C := Tryz.checked) own started (by kernel_rfl) Tryz.func3
    (ChangeSpec.witness6 (enc := enc) (C := Tryz.checked) false ⟨#[], #[.agg #[.slice none 0 0, .slice none 0 0]], []⟩ 8 (by kernel_rfl) (by kernel_rfl) (by kernel_rfl) (by kernel_rfl)) ?_
  intro W base args ds gs before hval0 hW hcnd _
  have hval : ∀ (j : Nat) t v, Tryz.f3.params[j]? = some t → args[j]? = some v → Value.okWide Tryz.prog W .any base t v := hval0
  have hW' := hW
  obtain ⟨p, q, hA0, hV, rfl, hfz, hnd⟩ := hW
  have hA : DataW.TrodAll enc Tryz.prog W 0 (fun _ => true) true Tryz.f3.params.toList args.toList ds p := hA0
  rw [Tryz.params3] at hA hval
  obtain ⟨v0, vs0, d0, ds0, p0, q0, hargs, rfl, rfl, h0, r0⟩ := trodAll_cons hA
  obtain ⟨rfl, rfl, rfl⟩ := trodAll_nil r0
  obtain rfl : args = #[v0] := by cases args; simp_all
  obtain ⟨rfl, rfl⟩ := trodVars_none hV
  have k0 := h0
  have lt0 : ∀ x ∈ p0, x.block < W.heap.size := by obtain ⟨m, hm⟩ := k0; exact DataW.trod_lt m _ _ _ hm
  obtain ⟨vl, ve, g, rfl, hg⟩ := graph_open (hval 0 25 v0 rfl rfl) h0
  clear hA0 hval0
  refine (walk vl ve g W hg).mono fun e W' ⟨he, bel⟩ => ?_
  subst he
  exact ⟨_, rfl, _, _, _, [], _, [], hW', trodAll_mk1 (shut_bool Tryz.underlying4 _), (trodAll_cons_mk (Below.trod laidOut (by kernel_rfl) (of_decide_eq_true (by kernel_rfl)) k0 bel lt0) trodAll_mk0), rfl, bel.frame _, fun h => by cases h⟩

theorem linearizeRegions_over (walk : RegionsWalk) : Rows.linearizeRegionsRow.holds Tryz.pinned (OpenSpec.ofChange Rows.linearizeRegionsSpec) :=
  OpenClaim.holds_of_wide 3 Tryz.f3 rfl rfl rfl rfl rfl rfl rfl ⟨rfl, rfl, rfl, rfl, rfl⟩ rfl rfl rfl rfl rfl (by kernel_rfl) Tryz.func3 (by kernel_rfl)
    (of_decide_eq_true (by kernel_rfl)) (by unfold Func.isWrapper; first | (rw [if_pos (by decide +kernel)]; kernel_rfl) | (rw [if_neg (by decide +kernel)]; exact ⟨rfl, rfl⟩))
    (fun os started H enc _ => linearizeRegions_lifted walk os started H enc)

theorem linearizeRegions_holds : Rows.LinearizeRegionsSaid := linearizeRegions_over fun vl ve g w hg => Go.Proofs.Lg.regions_walk vl ve g w hg
#print axioms linearizeRegions_holds
end Go.Proofs.YtclholnhkhjjaaaGreat
