/-
  Part ETB5 of this claim's proof. Joined by merge.py from the texts of wip/tpl.
-/
import Derived.Test.YtjlnniaknfpgiaaGreatDoorGR
set_option linter.unusedVariables false
set_option linter.unusedSimpArgs false
set_option linter.unnecessarySimpa false
namespace Go.Proofs.Lh.ET
open Go Go.Ab Go.Bb
set_option maxRecDepth 1000000
theorem c5 : AFn Tryz.prog 138 [(.agg [v 1779033703, v 3144134277, v 1013904242, v 2773480762, v 1359893119, v 2600822924, v 528734635, v 1541459225]), .sc (.string ⟨#[40, 54, 58, 113, 117, 105, 108, 116, 49, 51, 58, 99, 105, 100, 48, 58, 49, 58, 48, 40, 41, 40, 40, 49, 58, 55, 40, 40, 51, 50, 58, 49, 35, 231, 191, 16, 58, 178, 16, 141, 178, 154, 81, 96, 11, 5, 178, 124, 227, 95, 12, 185, 7, 160, 186, 110, 136, 117, 68, 195, 103, 197, 67, 49]⟩)] (.agg [v 2958106992, v 3949739249, v 3803809014, v 1597612468, v 2293468662, v 1274535274, v 4197406974, v 1738514160]) := evF_ok E1_ok (n := 100000) (E := E1) (by kernel_rfl)
end Go.Proofs.Lh.ET
