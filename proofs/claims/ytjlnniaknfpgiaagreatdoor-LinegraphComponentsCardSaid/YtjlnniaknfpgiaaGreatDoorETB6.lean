/-
  Part ETB6 of this claim's proof. Joined by merge.py from the texts of wip/tpl.
-/
import Derived.Test.YtjlnniaknfpgiaaGreatDoorGR
set_option linter.unusedVariables false
set_option linter.unusedSimpArgs false
set_option linter.unnecessarySimpa false
namespace Go.Proofs.Lh.ET
open Go Go.Ab Go.Bb
set_option maxRecDepth 1000000
theorem c6 : AFn Tryz.prog 138 [(.agg [v 2958106992, v 3949739249, v 3803809014, v 1597612468, v 2293468662, v 1274535274, v 4197406974, v 1738514160]), .sc (.string ⟨#[58, 50, 41, 41, 41, 41, 41, 128, 0, 0, 0, 0, 0, 0, 0, 0, 0, 0, 0, 0, 0, 0, 0, 0, 0, 0, 0, 0, 0, 0, 0, 0, 0, 0, 0, 0, 0, 0, 0, 0, 0, 0, 0, 0, 0, 0, 0, 0, 0, 0, 0, 0, 0, 0, 0, 0, 0, 0, 0, 0, 0, 0, 2, 56]⟩)] (.agg [v 1454075450, v 1297166878, v 1346336701, v 3816081193, v 4188102404, v 942032533, v 559472053, v 1806637565]) := evF_ok E1_ok (n := 100000) (E := E1) (by kernel_rfl)
end Go.Proofs.Lh.ET
