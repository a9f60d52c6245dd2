/- Lemmas. -/
import Derived.Test.YtellfinifjmloaaGreatDoorKAB
set_option linter.unusedVariables false
set_option linter.unusedSimpArgs false
namespace Go.Proofs.YtellfinifjmloaaGreatDoor
open Go.ChangeShapes Go.WideShapes Go.ChangeAt Go.RowKit Go.Proofs.Lg
theorem Ua:Rows.LivingAtomsCardSaid:=
 Claim7.holds_tied_plain_at .later [] [.data,.data,.data] true (true,"1a60c73f69fde8b55ac3212be2a1307b13d009d7012ca39d6b39bf872618b6cc") false Uc (fun _ h=>by cases h) (by as_aux_lemma=>kernel_rfl) (fun _ h=>by cases h) livingAtoms_row_tie rfl ⟨rfl,rfl⟩ (by as_aux_lemma=>kernel_rfl) rfl
  (fun f fn d b=>by
   obtain rfl:f=10:=aJ ((show Tryz.prog.funcNamed "quilt/quiltlaw18.LivingAtoms"=some 10 by kernel_rfl).symm.trans d)|>.symm
   obtain rfl:fn=Tryz.f10:=(aJ (Tryz.func10.symm.trans b)).symm;exact⟨by kernel_rfl,fun j t c=>by
    rw[Tryz.params10]at c;have hm:t∈[23]:=by simpa using Array.mem_of_getElem? c
    have a:([23].all fun u=> !Tryz.prog.wantsStandIn u)=true:=by kernel_rfl
    exact(show Tryz.prog.wantsStandIn t=false by simpa using jX.1 a t hm)⟩)
  (by as_aux_lemma=>kernel_rfl)
#print axioms Ua
end Go.Proofs.YtellfinifjmloaaGreatDoor
