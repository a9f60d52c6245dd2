/-
  LinegraphComponents holds: for every argument that can be read as data the Go function returns true, and the arguments read as they did. Conditions: those of the card: the laid variables are tied to the program's text.
-/
import Derived.Test.YtjlnniaknfpgiaaGreatDoorTie
import Derived.Test.YtjlnniaknfpgiaaGreatDoorCards
import Derived.ProofKit
import Derived.ShutString
import Derived.OpenShut
import Derived.LaidMore
import Derived.Lay
import Derived.SevenTiedAt
import Derived.Stop.Joined
import Derived.ChangeOld
import Derived.Below
import Derived.Test.YtjlnniaknfpgiaaGreatDoorGL
import Derived.Test.YtjlnniaknfpgiaaGreatDoorET6
set_option linter.unusedVariables false
set_option linter.unusedSimpArgs false
set_option linter.unnecessarySimpa false
namespace Go.Proofs.Lh
open Go Go.RowKit Go.Proofs.Lg
open Go.Ab (RD D)

theorem linegraphComponents_walk (vl0 ve0 : Value) (g0 : Gr) (w : World) (hg0 : GrIn w vl0 ve0 g0) :
    Calls Tryz.prog 4 #[.agg #[vl0, ve0]] w fun e w' => e = .returned (.bool true) ∧ Below w.heap.size w w' := by
  have h := compsLaw_fn ET.awake_true (grAny_in hg0)
  refine (h.calls (Go.Bb.cellsIn w) w [.agg #[vl0, ve0]] rfl fun i v d hv hd => ?_).mono fun e w' hh => ?_
  · match i with
    | 0 => simp at hv hd; subst hv; subst hd; exact dGraph_in hg0
    | i + 1 => simp at hv
  · obtain ⟨v, he, hr, hb⟩ := hh
    have := RD_sc hr
    subst this
    exact ⟨he, hb⟩
end Go.Proofs.Lh

namespace Go.Proofs.YtjlnniaknfpgiaaGreatDoor
open Go.ChangeShapes Go.WideShapes Go.ChangeAt Go.RowKit Go.Proofs.Lg

theorem own : ownKnob Tryz.prog.godebug = none := by kernel_rfl
theorem laidOut : laidOutB Tryz.prog = true := by kernel_rfl

set_option maxRecDepth 100000 in
theorem linegraphComponents_lifted (os : Os) (started : os.Started) (H : Type) (enc : TypeId × Value → H) :
    ReturnsInHanded {} Tryz.checked os 4 .any (fun w args => (Rows.linegraphComponentsSpec.pre enc Tryz.prog Tryz.f4 Rows.linegraphComponentsRow.domain false w args ∧ laidMetH Tryz.prog Rows.linegraphComponentsRow.laid w) ∧ sizedMet enc Tryz.prog Tryz.f4 (OpenSpec.ofChange Rows.linegraphComponentsSpec) false w args)
      (Rows.linegraphComponentsSpec.post enc Tryz.prog Tryz.f4 false true false false) := by
  refine returnsInHanded_of_change_and (C := Tryz.checked) (X := fun w _ => laidMetH Tryz.prog Rows.linegraphComponentsRow.laid w) (fun _ _ _ hh h => h.of_heap hh) own started (by kernel_rfl) Tryz.func4
    (ChangeSpec.witness_shaped (enc := enc) (C := Tryz.checked) (os := os) (X := fun w _ => laidMetH Tryz.prog Rows.linegraphComponentsRow.laid w) false (World.laidAll Tryz.prog os Rows.linegraphComponentsRow.laid) #[.agg #[.slice none 0 0, .slice none 0 0]] 8 (World.laidAll_os _ _ _)
      (World.shaped_of_ZipB (by kernel_rfl) (by kernel_rfl)) (by kernel_rfl) (by kernel_rfl) (by kernel_rfl)
      (by rw [MakeChecks.laidMetH_plain _ _ _ (by kernel_rfl)]; exact laidMet_laidAll _ (by kernel_rfl) (by kernel_rfl))) ?_
  intro W base args ds gs before hval0 hW hc _ hL _
  have hval : ∀ (j : Nat) t v, Tryz.f4.params[j]? = some t → args[j]? = some v → Value.okWide Tryz.prog W .any base t v := hval0
  have hW' := hW
  obtain ⟨p, q, hA0, hV, rfl, _, _⟩ := hW
  have hA : DataW.TrodAll enc Tryz.prog W 0 (fun _ => true) true Tryz.f4.params.toList args.toList ds p := hA0
  rw [Tryz.params4] at hA hval
  obtain ⟨v0, vs0, d0, ds0, p0, q0, hargs0, rfl, rfl, h0, r0⟩ := trodAll_cons hA
  obtain ⟨rfl, rfl, rfl⟩ := trodAll_nil r0
  obtain rfl : args = #[v0] := by cases args; simp_all
  obtain ⟨rfl, rfl⟩ := trodVars_none hV
  have k0 := h0
  have lt0 : ∀ x ∈ p0, x.block < W.heap.size := by obtain ⟨m, hm⟩ := k0; exact DataW.trod_lt m _ _ _ hm
  obtain ⟨vl0, ve0, g0, rfl, hg0⟩ := graph_open (hval 0 25 v0 rfl rfl) h0
  clear hA0 hval0
  refine (Go.Proofs.Lh.linegraphComponents_walk vl0 ve0 g0 W hg0).mono fun e W' ⟨he, bel⟩ => ?_
  subst he
  exact ⟨_, rfl, _, _, _, [], _, [], hW', trodAll_mk1 (shut_bool Tryz.underlying4 _), (trodAll_cons_mk (Below.trod laidOut (by kernel_rfl) (of_decide_eq_true (by kernel_rfl)) k0 bel lt0) trodAll_mk0), rfl, bel.frame _, fun h => by cases h⟩

theorem linegraphComponents_row : Rows.linegraphComponentsRow.holds Tryz.pinned (OpenSpec.ofChange Rows.linegraphComponentsSpec) :=
  OpenClaim.holds_of_wide 4 Tryz.f4 rfl rfl rfl rfl rfl rfl rfl ⟨rfl, rfl, rfl, rfl, rfl⟩ rfl rfl rfl rfl rfl (by kernel_rfl) Tryz.func4 (by kernel_rfl)
    (of_decide_eq_true (by kernel_rfl)) (by unfold Func.isWrapper; first | (rw [if_pos (by decide +kernel)]; kernel_rfl) | (rw [if_neg (by decide +kernel)]; exact ⟨rfl, rfl⟩))
    (fun os started H enc _ => linegraphComponents_lifted os started H enc)

theorem linegraphComponents_holds : Rows.LinegraphComponentsCardSaid :=
  Claim7.holds_tied_plain_at .later [] [.data, .data, .data] true (true, "19cbc3ffb3ff9a1c96e62c724f332d6c4a869ac19d41ccde1f9924c2b886e687") false linegraphComponents_row (fun _ h => by cases h) (by kernel_rfl) (fun _ h => by cases h) linegraphComponents_row_tie rfl ⟨rfl, rfl⟩ (by kernel_rfl) rfl
    (fun f fn hf hfn => by
      obtain rfl : f = 4 := Option.some.inj ((show Tryz.prog.funcNamed "quilt/quiltlaw21.LinegraphComponents" = some 4 by kernel_rfl).symm.trans hf) |>.symm
      obtain rfl : fn = Tryz.f4 := (Option.some.inj (Tryz.func4.symm.trans hfn)).symm
      exact ⟨by kernel_rfl, fun j t ht => by
        rw [Tryz.params4] at ht
        have hm : t ∈ [25] := by simpa using Array.mem_of_getElem? ht
        have hall : ([25].all fun u => !Tryz.prog.wantsStandIn u) = true := by kernel_rfl
        exact (show Tryz.prog.wantsStandIn t = false by simpa using List.all_eq_true.1 hall t hm)⟩)
    (by kernel_rfl)
#print axioms linegraphComponents_holds
end Go.Proofs.YtjlnniaknfpgiaaGreatDoor
