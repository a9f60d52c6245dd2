/- UnrecordAmends holds: for every set, number and description that can be read as data the Go function returns true, and the arguments read as they did. Conditions: those of the card: the laid variables are tied to the program's text. -/
import Derived.Test.YtikhfhjohjfamaaGreatDoorRAB
set_option linter.unusedVariables false
set_option linter.unusedSimpArgs false
set_option maxRecDepth 100000
namespace Go.Proofs.YtikhfhjohjfamaaGreatDoor
open Go.ChangeShapes Go.WideShapes Go.ChangeAt Go.RowKit Go.Proofs.Lg
theorem unrecordAmends_holds:Rows.UnrecordAmendsCardSaid:=
 Claim7.holds_tied_plain_at .later [] [.data,.data,.data] true (true,"0518e74b21ba44120aed5dbc4e26d684ff1be1c6b3f8173c5a3eb62f4a19e366") false unrecordAmends_row (λ_ h=>by cases h) (by as_aux_lemma=>kernel_rfl) (λ_ h=>by cases h) unrecordAmends_row_tie rfl ⟨rfl,rfl⟩ (by as_aux_lemma=>kernel_rfl) rfl
  (λf d e b=>by
   obtain rfl:f=9:=aJ ((show Tryz.prog.funcNamed "quilt/quiltlaw28.UnrecordAmends"=some 9 by kernel_rfl).symm.trans e)|>.symm
   obtain rfl:d=Tryz.f9:=(aJ (Tryz.func9.symm.trans b)).symm;exact⟨by kernel_rfl,λj t c=>by
    rw[Tryz.params9]at c;have g:t∈[23,5,58]:=by simpa using Array.mem_of_getElem? c
    have a:([23,5,58].all λu=> !Tryz.prog.wantsStandIn u)=true:=by kernel_rfl
    exact(show Tryz.prog.wantsStandIn t=false by simpa using js.1 a t g)⟩)
  (by as_aux_lemma=>kernel_rfl)
#print axioms unrecordAmends_holds
end Go.Proofs.YtikhfhjohjfamaaGreatDoor
