/- LivingOne holds: for every set and identity that can be read as data the Go function returns true, and the arguments read as they did. Conditions: those of the card: the laid variables are tied to the program's text. -/
import Derived.Test.YtellfinifjmloaaGreatDoorKOB
set_option linter.unusedVariables false
set_option linter.unusedSimpArgs false
namespace Go.Proofs.YtellfinifjmloaaGreatDoor
open Go.ChangeShapes Go.WideShapes Go.ChangeAt Go.RowKit Go.Proofs.Lg
theorem Um:Rows.LivingOneCardSaid:=
 Claim7.holds_tied_plain_at .later [] [.data,.data,.data] true (true,"1a60c73f69fde8b55ac3212be2a1307b13d009d7012ca39d6b39bf872618b6cc") false Uo (fun _ h=>by cases h) (by as_aux_lemma=>kernel_rfl) (fun _ h=>by cases h) livingOne_row_tie rfl ⟨rfl,rfl⟩ (by as_aux_lemma=>kernel_rfl) rfl
  (fun f fn d b=>by
   obtain rfl:f=3:=aJ ((show Tryz.prog.funcNamed "quilt/quiltlaw18.LivingOne"=some 3 by kernel_rfl).symm.trans d)|>.symm
   obtain rfl:fn=Tryz.f3:=(aJ (Tryz.func3.symm.trans b)).symm;exact⟨by kernel_rfl,fun j t c=>by
    rw[Tryz.params3]at c;have hm:t∈[23,27]:=by simpa using Array.mem_of_getElem? c
    have a:([23,27].all fun u=> !Tryz.prog.wantsStandIn u)=true:=by kernel_rfl
    exact(show Tryz.prog.wantsStandIn t=false by simpa using jX.1 a t hm)⟩)
  (by as_aux_lemma=>kernel_rfl)
#print axioms Um
end Go.Proofs.YtellfinifjmloaaGreatDoor
