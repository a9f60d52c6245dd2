/- Lemmas. -/
import Derived.Test.YtellfinifjmloaaGreatDoorPX9
set_option linter.unusedVariables false
set_option linter.unusedSimpArgs false
namespace Go.Proofs.YtellfinifjmloaaGreatDoor
open Go.ChangeShapes Go.WideShapes Go.ChangeAt Go.RowKit Go.Proofs.Lg
set_option maxHeartbeats 4000000 in
set_option maxRecDepth 100000 in
theorem Uh:joinedFacts Tryz.pinned.checked.prog 6 Tryz.f6 Rows.livingLocalSpec Rows.livingLocalRow=true:=by
 unfold joinedFacts;simp only[er]
 repeat' apply And.intro
 all_goals(as_aux_lemma=>kernel_rfl)
theorem Uk:Rows.livingLocalRow.holds Tryz.pinned (OpenSpec.ofChange Rows.livingLocalSpec):=
 OpenClaim.holds_of_wide 6 Tryz.f6 rfl rfl rfl rfl rfl rfl rfl ⟨rfl,rfl,rfl,rfl,rfl⟩ rfl rfl rfl rfl rfl (by kernel_rfl) Tryz.func6 Uh
  (of_decide_eq_true (by kernel_rfl)) (by unfold Func.isWrapper;first|(rw[if_pos (by decide+kernel)];kernel_rfl)|(rw[if_neg (by decide+kernel)];exact⟨rfl,rfl⟩))
  (fun os started H enc _=>Uj os started H enc)
end Go.Proofs.YtellfinifjmloaaGreatDoor
