/- Lemmas. -/
import Derived.Test.YtellfinifjmloaaGreatDoorPXA
set_option linter.unusedVariables false
set_option linter.unusedSimpArgs false
namespace Go.Proofs.YtellfinifjmloaaGreatDoor
open Go.ChangeShapes Go.WideShapes Go.ChangeAt Go.RowKit Go.Proofs.Lg
set_option maxHeartbeats 4000000 in
set_option maxRecDepth 100000 in
theorem Ud:joinedFacts Tryz.pinned.checked.prog 7 Tryz.f7 Rows.livingFinalSpec Rows.livingFinalRow=true:=by
 unfold joinedFacts;simp only[er]
 repeat' apply And.intro
 all_goals(as_aux_lemma=>kernel_rfl)
theorem Ug:Rows.livingFinalRow.holds Tryz.pinned (OpenSpec.ofChange Rows.livingFinalSpec):=
 OpenClaim.holds_of_wide 7 Tryz.f7 rfl rfl rfl rfl rfl rfl rfl ⟨rfl,rfl,rfl,rfl,rfl⟩ rfl rfl rfl rfl rfl (by kernel_rfl) Tryz.func7 Ud
  (of_decide_eq_true (by kernel_rfl)) (by unfold Func.isWrapper;first|(rw[if_pos (by decide+kernel)];kernel_rfl)|(rw[if_neg (by decide+kernel)];exact⟨rfl,rfl⟩))
  (fun os started H enc _=>Uf os started H enc)
end Go.Proofs.YtellfinifjmloaaGreatDoor
