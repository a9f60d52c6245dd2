/-
  LinegraphGraph holds: for every argument that can be read as data the Go function returns true, and the arguments read as they did. Conditions: those of the card: the laid variables are tied to the program's text.
-/
import Derived.Test.YtjlnniaknfpgiaaGreatDoorTie
import Derived.Test.YtjlnniaknfpgiaaGreatDoorCards
import Derived.ProofKit
import Derived.ShutString
import Derived.OpenShut
import Derived.LaidMore
import Derived.Lay
import Derived.SevenTiedAt
import Derived.Stop.Joined
import Derived.ChangeOld
import Derived.Below
import Derived.Test.YtjlnniaknfpgiaaGreatDoorGL
import Derived.Test.YtjlnniaknfpgiaaGreatDoorET6
set_option linter.unusedVariables false
set_option linter.unusedSimpArgs false
set_option linter.unnecessarySimpa false
namespace Go.Proofs.Lh
open Go Go.RowKit Go.Proofs.Lg
open Go.Ab (RD D)

theorem linegraphGraph_walk (vl0 ve0 : Value) (g0 : Gr) (n1 : Int) (n2 : Int) (w : World) (hg0 : GrIn w vl0 ve0 g0) :
    Calls Tryz.prog 3 #[.agg #[vl0, ve0], .int .i64 n1, .int .i64 n2] w fun e w' => e = .returned (.bool true) ∧ Below w.heap.size w w' := by
  have h := graphLaw_fn ET.awake_true (grAny_in hg0) n1 n2
  refine (h.calls (Go.Bb.cellsIn w) w [.agg #[vl0, ve0], .int .i64 n1, .int .i64 n2] rfl fun i v d hv hd => ?_).mono fun e w' hh => ?_
  · match i with
    | 0 => simp at hv hd; subst hv; subst hd; exact dGraph_in hg0
    | 1 => simp at hv hd; subst hv; subst hd; exact .sc _
    | 2 => simp at hv hd; subst hv; subst hd; exact .sc _
    | i + 3 => simp at hv
  · obtain ⟨v, he, hr, hb⟩ := hh
    have := RD_sc hr
    subst this
    exact ⟨he, hb⟩
end Go.Proofs.Lh

namespace Go.Proofs.YtjlnniaknfpgiaaGreatDoor
open Go.ChangeShapes Go.WideShapes Go.ChangeAt Go.RowKit Go.Proofs.Lg

theorem own : ownKnob Tryz.prog.godebug = none := by kernel_rfl
theorem laidOut : laidOutB Tryz.prog = true := by kernel_rfl

set_option maxRecDepth 100000 in
theorem linegraphGraph_lifted (os : Os) (started : os.Started) (H : Type) (enc : TypeId × Value → H) :
    ReturnsInHanded {} Tryz.checked os 3 .any (fun w args => (Rows.linegraphGraphSpec.pre enc Tryz.prog Tryz.f3 Rows.linegraphGraphRow.domain false w args ∧ laidMetH Tryz.prog Rows.linegraphGraphRow.laid w) ∧ sizedMet enc Tryz.prog Tryz.f3 (OpenSpec.ofChange Rows.linegraphGraphSpec) false w args)
      (Rows.linegraphGraphSpec.post enc Tryz.prog Tryz.f3 false true false false) := by
  refine returnsInHanded_of_change_and (C := Tryz.checked) (X := fun w _ => laidMetH Tryz.prog Rows.linegraphGraphRow.laid w) (fun _ _ _ hh h => h.of_heap hh) own started (by kernel_rfl) Tryz.func3
    (ChangeSpec.witness_shaped (enc := enc) (C := Tryz.checked) (os := os) (X := fun w _ => laidMetH Tryz.prog Rows.linegraphGraphRow.laid w) false (World.laidAll Tryz.prog os Rows.linegraphGraphRow.laid) #[.agg #[.slice none 0 0, .slice none 0 0], .int .i64 0, .int .i64 0] 8 (World.laidAll_os _ _ _)
      (World.shaped_of_ZipB (by kernel_rfl) (by kernel_rfl)) (by kernel_rfl) (by kernel_rfl) (by kernel_rfl)
      (by rw [MakeChecks.laidMetH_plain _ _ _ (by kernel_rfl)]; exact laidMet_laidAll _ (by kernel_rfl) (by kernel_rfl))) ?_
  intro W base args ds gs before hval0 hW hc _ hL _
  have hval : ∀ (j : Nat) t v, Tryz.f3.params[j]? = some t → args[j]? = some v → Value.okWide Tryz.prog W .any base t v := hval0
  have hW' := hW
  obtain ⟨p, q, hA0, hV, rfl, _, _⟩ := hW
  have hA : DataW.TrodAll enc Tryz.prog W 0 (fun _ => true) true Tryz.f3.params.toList args.toList ds p := hA0
  rw [Tryz.params3] at hA hval
  obtain ⟨v0, vs0, d0, ds0, p0, q0, hargs0, rfl, rfl, h0, r0⟩ := trodAll_cons hA
  obtain ⟨v1, vs1, d1, ds1, p1, q1, hargs1, rfl, rfl, h1, r1⟩ := trodAll_cons r0
  obtain ⟨v2, vs2, d2, ds2, p2, q2, hargs2, rfl, rfl, h2, r2⟩ := trodAll_cons r1
  obtain ⟨rfl, rfl, rfl⟩ := trodAll_nil r2
  obtain rfl : args = #[v0, v1, v2] := by cases args; simp_all
  obtain ⟨rfl, rfl⟩ := trodVars_none hV
  have k0 := h0
  have k1 := h1
  have k2 := h2
  have lt0 : ∀ x ∈ p0, x.block < W.heap.size := by obtain ⟨m, hm⟩ := k0; exact DataW.trod_lt m _ _ _ hm
  have lt1 : ∀ x ∈ p1, x.block < W.heap.size := by obtain ⟨m, hm⟩ := k1; exact DataW.trod_lt m _ _ _ hm
  have lt2 : ∀ x ∈ p2, x.block < W.heap.size := by obtain ⟨m, hm⟩ := k2; exact DataW.trod_lt m _ _ _ hm
  obtain ⟨vl0, ve0, g0, rfl, hg0⟩ := graph_open (hval 0 25 v0 rfl rfl) h0
  obtain ⟨n1, rfl, _, _, _⟩ := open_int Tryz.underlying3 (hval 1 3 v1 rfl rfl) h1
  obtain ⟨n2, rfl, _, _, _⟩ := open_int Tryz.underlying3 (hval 2 3 v2 rfl rfl) h2
  clear hA0 hval0
  refine (Go.Proofs.Lh.linegraphGraph_walk vl0 ve0 g0 n1 n2 W hg0).mono fun e W' ⟨he, bel⟩ => ?_
  subst he
  exact ⟨_, rfl, _, _, _, [], _, [], hW', trodAll_mk1 (shut_bool Tryz.underlying4 _), (trodAll_cons_mk (Below.trod laidOut (by kernel_rfl) (of_decide_eq_true (by kernel_rfl)) k0 bel lt0) (trodAll_cons_mk (Below.trod laidOut (by kernel_rfl) (of_decide_eq_true (by kernel_rfl)) k1 bel lt1) (trodAll_cons_mk (Below.trod laidOut (by kernel_rfl) (of_decide_eq_true (by kernel_rfl)) k2 bel lt2) trodAll_mk0))), rfl, bel.frame _, fun h => by cases h⟩

theorem linegraphGraph_row : Rows.linegraphGraphRow.holds Tryz.pinned (OpenSpec.ofChange Rows.linegraphGraphSpec) :=
  OpenClaim.holds_of_wide 3 Tryz.f3 rfl rfl rfl rfl rfl rfl rfl ⟨rfl, rfl, rfl, rfl, rfl⟩ rfl rfl rfl rfl rfl (by kernel_rfl) Tryz.func3 (by kernel_rfl)
    (of_decide_eq_true (by kernel_rfl)) (by unfold Func.isWrapper; first | (rw [if_pos (by decide +kernel)]; kernel_rfl) | (rw [if_neg (by decide +kernel)]; exact ⟨rfl, rfl⟩))
    (fun os started H enc _ => linegraphGraph_lifted os started H enc)

theorem linegraphGraph_holds : Rows.LinegraphGraphCardSaid :=
  Claim7.holds_tied_plain_at .later [] [.data, .data, .data] true (true, "19cbc3ffb3ff9a1c96e62c724f332d6c4a869ac19d41ccde1f9924c2b886e687") false linegraphGraph_row (fun _ h => by cases h) (by kernel_rfl) (fun _ h => by cases h) linegraphGraph_row_tie rfl ⟨rfl, rfl⟩ (by kernel_rfl) rfl
    (fun f fn hf hfn => by
      obtain rfl : f = 3 := Option.some.inj ((show Tryz.prog.funcNamed "quilt/quiltlaw21.LinegraphGraph" = some 3 by kernel_rfl).symm.trans hf) |>.symm
      obtain rfl : fn = Tryz.f3 := (Option.some.inj (Tryz.func3.symm.trans hfn)).symm
      exact ⟨by kernel_rfl, fun j t ht => by
        rw [Tryz.params3] at ht
        have hm : t ∈ [25, 3, 3] := by simpa using Array.mem_of_getElem? ht
        have hall : ([25, 3, 3].all fun u => !Tryz.prog.wantsStandIn u) = true := by kernel_rfl
        exact (show Tryz.prog.wantsStandIn t = false by simpa using List.all_eq_true.1 hall t hm)⟩)
    (by kernel_rfl)
#print axioms linegraphGraph_holds
end Go.Proofs.YtjlnniaknfpgiaaGreatDoor
