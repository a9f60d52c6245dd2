/- Lemmas. -/
import Derived.Test.YtikhfhjohjfamaaGreatDoorRAA
set_option linter.unusedVariables false
set_option linter.unusedSimpArgs false
set_option maxRecDepth 100000
namespace Go.Proofs.YtikhfhjohjfamaaGreatDoor
open Go.ChangeShapes Go.WideShapes Go.ChangeAt Go.RowKit Go.Proofs.Lg
set_option maxHeartbeats 4000000 in
set_option maxRecDepth 100000 in
theorem unrecordAmends_facts:joinedFacts Tryz.pinned.checked.prog 9 Tryz.f9 Rows.unrecordAmendsSpec Rows.unrecordAmendsRow=true:=by
 unfold joinedFacts;simp only[dW]
 repeat' apply And.intro
 all_goals(as_aux_lemma=>kernel_rfl)
theorem unrecordAmends_row:Rows.unrecordAmendsRow.holds Tryz.pinned (OpenSpec.ofChange Rows.unrecordAmendsSpec):=
 OpenClaim.holds_of_wide 9 Tryz.f9 rfl rfl rfl rfl rfl rfl rfl ⟨rfl,rfl,rfl,rfl,rfl⟩ rfl rfl rfl rfl rfl (by kernel_rfl) Tryz.func9 unrecordAmends_facts
  (of_decide_eq_true (by kernel_rfl)) (by unfold Func.isWrapper;first|(rw[if_pos (by decide+kernel)];kernel_rfl)|(rw[if_neg (by decide+kernel)];exact⟨rfl,rfl⟩))
  (λos started H enc _=>unrecordAmends_lifted os started H enc)
end Go.Proofs.YtikhfhjohjfamaaGreatDoor
