/-
  Part ETB1 of this claim's proof. Joined by merge.py from the texts of wip/tpl.
-/
import Derived.Test.YtjlnniaknfpgiaaGreatDoorGR
set_option linter.unusedVariables false
set_option linter.unusedSimpArgs false
set_option linter.unnecessarySimpa false
namespace Go.Proofs.Lh.ET
open Go Go.Ab Go.Bb
set_option maxRecDepth 1000000
theorem c1 : AFn Tryz.prog 138 [(.agg [v 463219051, v 2031141609, v 3724013818, v 2399688816, v 8555606, v 2763152043, v 3784853065, v 3537218372]), .sc (.string ⟨#[41, 41, 128, 0, 0, 0, 0, 0, 0, 0, 0, 0, 0, 0, 0, 0, 0, 0, 0, 0, 0, 0, 0, 0, 0, 0, 0, 0, 0, 0, 0, 0, 0, 0, 0, 0, 0, 0, 0, 0, 0, 0, 0, 0, 0, 0, 0, 0, 0, 0, 0, 0, 0, 0, 0, 0, 0, 0, 0, 0, 0, 0, 2, 16]⟩)] (.agg [v 824436671, v 272282128, v 2377292369, v 1611335090, v 2095275788, v 3104284858, v 1854436676, v 3278357827]) := evF_ok E1_ok (n := 100000) (E := E1) (by kernel_rfl)
end Go.Proofs.Lh.ET
