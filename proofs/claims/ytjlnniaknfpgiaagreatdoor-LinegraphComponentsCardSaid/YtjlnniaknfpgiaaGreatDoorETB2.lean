/-
  Part ETB2 of this claim's proof. Joined by merge.py from the texts of wip/tpl.
-/
import Derived.Test.YtjlnniaknfpgiaaGreatDoorGR
set_option linter.unusedVariables false
set_option linter.unusedSimpArgs false
set_option linter.unnecessarySimpa false
namespace Go.Proofs.Lh.ET
open Go Go.Ab Go.Bb
set_option maxRecDepth 1000000
theorem c2 : AFn Tryz.prog 138 [(.agg [v 1779033703, v 3144134277, v 1013904242, v 2773480762, v 1359893119, v 2600822924, v 528734635, v 1541459225]), .sc (.string ⟨#[40, 54, 58, 113, 117, 105, 108, 116, 49, 51, 58, 98, 111, 98, 48, 58, 49, 58, 48, 40, 41, 40, 40, 49, 58, 53, 40, 51, 50, 58, 49, 35, 231, 191, 16, 58, 178, 16, 141, 178, 154, 81, 96, 11, 5, 178, 124, 227, 95, 12, 185, 7, 160, 186, 110, 136, 117, 68, 195, 103, 197, 67, 49, 58]⟩)] (.agg [v 2721612073, v 2593232527, v 542277134, v 1803520711, v 2168998209, v 1543542944, v 3303229753, v 3111468887]) := evF_ok E1_ok (n := 100000) (E := E1) (by kernel_rfl)
end Go.Proofs.Lh.ET
