/- Lemmas. -/
import Derived.Test.YtikhfhjohjfamaaGreatDoorROA
set_option linter.unusedVariables false
set_option linter.unusedSimpArgs false
set_option maxRecDepth 100000
namespace Go.Proofs.YtikhfhjohjfamaaGreatDoor
open Go.ChangeShapes Go.WideShapes Go.ChangeAt Go.RowKit Go.Proofs.Lg
set_option maxHeartbeats 4000000 in
set_option maxRecDepth 100000 in
theorem unrecordRollback_facts:joinedFacts Tryz.pinned.checked.prog 8 Tryz.f8 Rows.unrecordRollbackSpec Rows.unrecordRollbackRow=true:=by
 unfold joinedFacts;simp only[dW]
 repeat' apply And.intro
 all_goals(as_aux_lemma=>kernel_rfl)
theorem unrecordRollback_row:Rows.unrecordRollbackRow.holds Tryz.pinned (OpenSpec.ofChange Rows.unrecordRollbackSpec):=
 OpenClaim.holds_of_wide 8 Tryz.f8 rfl rfl rfl rfl rfl rfl rfl ⟨rfl,rfl,rfl,rfl,rfl⟩ rfl rfl rfl rfl rfl (by kernel_rfl) Tryz.func8 unrecordRollback_facts
  (of_decide_eq_true (by kernel_rfl)) (by unfold Func.isWrapper;first|(rw[if_pos (by decide+kernel)];kernel_rfl)|(rw[if_neg (by decide+kernel)];exact⟨rfl,rfl⟩))
  (λos started H enc _=>unrecordRollback_lifted os started H enc)
end Go.Proofs.YtikhfhjohjfamaaGreatDoor
