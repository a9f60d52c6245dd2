/-
  Part ETB0 of this claim's proof. Joined by merge.py from the texts of wip/tpl.
-/
import Derived.Test.YtjlnniaknfpgiaaGreatDoorGR
set_option linter.unusedVariables false
set_option linter.unusedSimpArgs false
set_option linter.unnecessarySimpa false
namespace Go.Proofs.Lh.ET
open Go Go.Ab Go.Bb
set_option maxRecDepth 1000000
theorem c0 : AFn Tryz.prog 138 [(.agg [v 1779033703, v 3144134277, v 1013904242, v 2773480762, v 1359893119, v 2600822924, v 528734635, v 1541459225]), .sc (.string ⟨#[40, 54, 58, 113, 117, 105, 108, 116, 49, 51, 58, 97, 110, 110, 48, 58, 49, 58, 48, 40, 41, 40, 40, 49, 58, 49, 49, 58, 49, 41, 40, 49, 58, 53, 40, 48, 58, 49, 58, 48, 41, 40, 48, 58, 49, 58, 48, 41, 40, 48, 58, 49, 58, 48, 41, 40, 49, 58, 97, 49, 58, 98, 41, 41]⟩)] (.agg [v 463219051, v 2031141609, v 3724013818, v 2399688816, v 8555606, v 2763152043, v 3784853065, v 3537218372]) := evF_ok E1_ok (n := 100000) (E := E1) (by kernel_rfl)
end Go.Proofs.Lh.ET
