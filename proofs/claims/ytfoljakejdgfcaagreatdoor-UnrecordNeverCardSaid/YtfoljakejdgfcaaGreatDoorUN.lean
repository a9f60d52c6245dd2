/- UnrecordNever holds: for every set, patch and number that can be read as data the Go function returns true, and the arguments read as they did. Conditions: those of the card: the laid variables are tied to the program's text. -/
import Derived.Test.YtfoljakejdgfcaaGreatDoorPCUN
set_option linter.unusedVariables false
set_option linter.unusedSimpArgs false
namespace Go.Proofs.YtfoljakejdgfcaaGreatDoor
open Go.ChangeShapes Go.WideShapes Go.ChangeAt Go.RowKit Go.Proofs.Lg
set_option maxHeartbeats 4000000 in
set_option maxRecDepth 100000 in
theorem unrecordNever_facts:joinedFacts Tryz.pinned.checked.prog 4 Tryz.f4 Rows.unrecordNeverSpec Rows.unrecordNeverRow=true:=by
 unfold joinedFacts;simp only[eI]
 repeat' apply And.intro
 all_goals(as_aux_lemma=>kernel_rfl)
theorem unrecordNever_row:Rows.unrecordNeverRow.holds Tryz.pinned (OpenSpec.ofChange Rows.unrecordNeverSpec):=
 OpenClaim.holds_of_wide 4 Tryz.f4 rfl rfl rfl rfl rfl rfl rfl ⟨rfl,rfl,rfl,rfl,rfl⟩ rfl rfl rfl rfl rfl (by kernel_rfl) Tryz.func4 unrecordNever_facts
  (of_decide_eq_true (by kernel_rfl)) (by unfold Func.isWrapper;first|(rw[if_pos (by decide+kernel)];kernel_rfl)|(rw[if_neg (by decide+kernel)];exact⟨rfl,rfl⟩))
  (fun os started H enc _=>unrecordNever_lifted os started H enc)
theorem unrecordNever_holds:Rows.UnrecordNeverCardSaid:=
 Claim7.holds_tied_plain_at .later [] [.data,.data,.data] true (true,"84f2d3b849e899dcee3b7b05f991f23db2b4fbd56d00367ce2c12940e2ceb0df") false unrecordNever_row (fun _ h=>by cases h) (by kernel_rfl) (fun _ h=>by cases h) unrecordNever_row_tie rfl ⟨rfl,rfl⟩ (by kernel_rfl) rfl
  (fun f d e b=>by
   obtain rfl:f=4:=az ((show Tryz.prog.funcNamed "quilt/quiltlaw28.UnrecordNever"=some 4 by kernel_rfl).symm.trans e)|>.symm
   obtain rfl:d=Tryz.f4:=(az (Tryz.func4.symm.trans b)).symm;exact⟨by kernel_rfl,fun j t c=>by
    rw[Tryz.params4]at c;have g:t∈[23,39,5]:=by simpa using Array.mem_of_getElem? c
    have a:([23,39,5].all fun u=> !Tryz.prog.wantsStandIn u)=true:=by kernel_rfl
    exact(show Tryz.prog.wantsStandIn t=false by simpa using iA.1 a t g)⟩)
  (by kernel_rfl)
#print axioms unrecordNever_holds
end Go.Proofs.YtfoljakejdgfcaaGreatDoor
