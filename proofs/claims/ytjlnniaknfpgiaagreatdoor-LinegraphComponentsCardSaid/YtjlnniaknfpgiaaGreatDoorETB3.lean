/-
  Part ETB3 of this claim's proof. Joined by merge.py from the texts of wip/tpl.
-/
import Derived.Test.YtjlnniaknfpgiaaGreatDoorGR
set_option linter.unusedVariables false
set_option linter.unusedSimpArgs false
set_option linter.unnecessarySimpa false
namespace Go.Proofs.Lh.ET
open Go Go.Ab Go.Bb
set_option maxRecDepth 1000000
theorem c3 : AFn Tryz.prog 138 [(.agg [v 2721612073, v 2593232527, v 542277134, v 1803520711, v 2168998209, v 1543542944, v 3303229753, v 3111468887]), .sc (.string ⟨#[48, 41, 40, 51, 50, 58, 49, 35, 231, 191, 16, 58, 178, 16, 141, 178, 154, 81, 96, 11, 5, 178, 124, 227, 95, 12, 185, 7, 160, 186, 110, 136, 117, 68, 195, 103, 197, 67, 49, 58, 49, 41, 40, 51, 50, 58, 49, 35, 231, 191, 16, 58, 178, 16, 141, 178, 154, 81, 96, 11, 5, 178, 124, 227]⟩)] (.agg [v 3220348231, v 3213753797, v 4272923254, v 2400609560, v 725905414, v 1940678254, v 3865525659, v 994765026]) := evF_ok E1_ok (n := 100000) (E := E1) (by kernel_rfl)
end Go.Proofs.Lh.ET
