/- Lemmas. -/
import Derived.Test.YtellfinifjmloaaGreatDoorKLB
set_option linter.unusedVariables false
set_option linter.unusedSimpArgs false
namespace Go.Proofs.YtellfinifjmloaaGreatDoor
open Go.ChangeShapes Go.WideShapes Go.ChangeAt Go.RowKit Go.Proofs.Lg
theorem Ui:Rows.LivingLocalCardSaid:=
 Claim7.holds_tied_plain_at .later [] [.data,.data,.data] true (true,"1a60c73f69fde8b55ac3212be2a1307b13d009d7012ca39d6b39bf872618b6cc") false Uk (fun _ h=>by cases h) (by as_aux_lemma=>kernel_rfl) (fun _ h=>by cases h) livingLocal_row_tie rfl ⟨rfl,rfl⟩ (by as_aux_lemma=>kernel_rfl) rfl
  (fun f fn d b=>by
   obtain rfl:f=6:=aJ ((show Tryz.prog.funcNamed "quilt/quiltlaw18.LivingLocal"=some 6 by kernel_rfl).symm.trans d)|>.symm
   obtain rfl:fn=Tryz.f6:=(aJ (Tryz.func6.symm.trans b)).symm;exact⟨by kernel_rfl,fun j t c=>by
    rw[Tryz.params6]at c;have hm:t∈[23,44]:=by simpa using Array.mem_of_getElem? c
    have a:([23,44].all fun u=> !Tryz.prog.wantsStandIn u)=true:=by kernel_rfl
    exact(show Tryz.prog.wantsStandIn t=false by simpa using jX.1 a t hm)⟩)
  (by as_aux_lemma=>kernel_rfl)
#print axioms Ui
end Go.Proofs.YtellfinifjmloaaGreatDoor
