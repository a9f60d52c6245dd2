/-
  Part ETB4 of this claim's proof. Joined by merge.py from the texts of wip/tpl.
-/
import Derived.Test.YtjlnniaknfpgiaaGreatDoorGR
set_option linter.unusedVariables false
set_option linter.unusedSimpArgs false
set_option linter.unnecessarySimpa false
namespace Go.Proofs.Lh.ET
open Go Go.Ab Go.Bb
set_option maxRecDepth 1000000
theorem c4 : AFn Tryz.prog 138 [(.agg [v 3220348231, v 3213753797, v 4272923254, v 2400609560, v 725905414, v 1940678254, v 3865525659, v 994765026]), .sc (.string ⟨#[95, 12, 185, 7, 160, 186, 110, 136, 117, 68, 195, 103, 197, 67, 49, 58, 50, 41, 40, 49, 58, 120, 41, 41, 41, 41, 128, 0, 0, 0, 0, 0, 0, 0, 0, 0, 0, 0, 0, 0, 0, 0, 0, 0, 0, 0, 0, 0, 0, 0, 0, 0, 0, 0, 0, 0, 0, 0, 0, 0, 0, 0, 4, 208]⟩)] (.agg [v 1513024285, v 323636545, v 3468031484, v 4271021276, v 1995829293, v 1862808364, v 675264529, v 1799806040]) := evF_ok E1_ok (n := 100000) (E := E1) (by kernel_rfl)
end Go.Proofs.Lh.ET
