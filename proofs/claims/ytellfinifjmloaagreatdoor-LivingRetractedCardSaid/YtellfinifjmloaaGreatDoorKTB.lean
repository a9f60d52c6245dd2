/- Lemmas. -/
import Derived.Test.YtellfinifjmloaaGreatDoorPXB
set_option linter.unusedVariables false
set_option linter.unusedSimpArgs false
namespace Go.Proofs.YtellfinifjmloaaGreatDoor
open Go.ChangeShapes Go.WideShapes Go.ChangeAt Go.RowKit Go.Proofs.Lg
set_option maxHeartbeats 4000000 in
set_option maxRecDepth 100000 in
theorem Ut:joinedFacts Tryz.pinned.checked.prog 9 Tryz.f9 Rows.livingRetractedSpec Rows.livingRetractedRow=true:=by
 unfold joinedFacts;simp only[er]
 repeat' apply And.intro
 all_goals(as_aux_lemma=>kernel_rfl)
theorem Uw:Rows.livingRetractedRow.holds Tryz.pinned (OpenSpec.ofChange Rows.livingRetractedSpec):=
 OpenClaim.holds_of_wide 9 Tryz.f9 rfl rfl rfl rfl rfl rfl rfl ⟨rfl,rfl,rfl,rfl,rfl⟩ rfl rfl rfl rfl rfl (by kernel_rfl) Tryz.func9 Ut
  (of_decide_eq_true (by kernel_rfl)) (by unfold Func.isWrapper;first|(rw[if_pos (by decide+kernel)];kernel_rfl)|(rw[if_neg (by decide+kernel)];exact⟨rfl,rfl⟩))
  (fun os started H enc _=>Uv os started H enc)
end Go.Proofs.YtellfinifjmloaaGreatDoor
