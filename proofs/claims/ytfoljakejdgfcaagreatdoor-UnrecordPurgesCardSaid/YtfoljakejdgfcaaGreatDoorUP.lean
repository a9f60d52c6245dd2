/- UnrecordPurges holds: for every set and identities that can be read as data the Go function returns true, and the arguments read as they did. Conditions: those of the card: the laid variables are tied to the program's text. -/
import Derived.Test.YtfoljakejdgfcaaGreatDoorPCUP
set_option linter.unusedVariables false
set_option linter.unusedSimpArgs false
namespace Go.Proofs.YtfoljakejdgfcaaGreatDoor
open Go.ChangeShapes Go.WideShapes Go.ChangeAt Go.RowKit Go.Proofs.Lg
set_option maxHeartbeats 4000000 in
set_option maxRecDepth 100000 in
theorem unrecordPurges_facts:joinedFacts Tryz.pinned.checked.prog 5 Tryz.f5 Rows.unrecordPurgesSpec Rows.unrecordPurgesRow=true:=by
 unfold joinedFacts;simp only[eI]
 repeat' apply And.intro
 all_goals(as_aux_lemma=>kernel_rfl)
theorem unrecordPurges_row:Rows.unrecordPurgesRow.holds Tryz.pinned (OpenSpec.ofChange Rows.unrecordPurgesSpec):=
 OpenClaim.holds_of_wide 5 Tryz.f5 rfl rfl rfl rfl rfl rfl rfl ⟨rfl,rfl,rfl,rfl,rfl⟩ rfl rfl rfl rfl rfl (by kernel_rfl) Tryz.func5 unrecordPurges_facts
  (of_decide_eq_true (by kernel_rfl)) (by unfold Func.isWrapper;first|(rw[if_pos (by decide+kernel)];kernel_rfl)|(rw[if_neg (by decide+kernel)];exact⟨rfl,rfl⟩))
  (fun os started H enc _=>unrecordPurges_lifted os started H enc)
theorem unrecordPurges_holds:Rows.UnrecordPurgesCardSaid:=
 Claim7.holds_tied_plain_at .later [] [.data,.data,.data] true (true,"84f2d3b849e899dcee3b7b05f991f23db2b4fbd56d00367ce2c12940e2ceb0df") false unrecordPurges_row (fun _ h=>by cases h) (by kernel_rfl) (fun _ h=>by cases h) unrecordPurges_row_tie rfl ⟨rfl,rfl⟩ (by kernel_rfl) rfl
  (fun f d e b=>by
   obtain rfl:f=5:=az ((show Tryz.prog.funcNamed "quilt/quiltlaw28.UnrecordPurges"=some 5 by kernel_rfl).symm.trans e)|>.symm
   obtain rfl:d=Tryz.f5:=(az (Tryz.func5.symm.trans b)).symm;exact⟨by kernel_rfl,fun j t c=>by
    rw[Tryz.params5]at c;have g:t∈[23,26]:=by simpa using Array.mem_of_getElem? c
    have a:([23,26].all fun u=> !Tryz.prog.wantsStandIn u)=true:=by kernel_rfl
    exact(show Tryz.prog.wantsStandIn t=false by simpa using iA.1 a t g)⟩)
  (by kernel_rfl)
#print axioms unrecordPurges_holds
end Go.Proofs.YtfoljakejdgfcaaGreatDoor
