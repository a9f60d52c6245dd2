/-
  Part ET6 of this claim's proof. Joined by merge.py from the texts of wip/tpl.
-/
import Derived.Test.YtjlnniaknfpgiaaGreatDoorET5
set_option linter.unusedVariables false
set_option linter.unusedSimpArgs false
set_option linter.unnecessarySimpa false
namespace Go.Proofs.Lh.ET
open Go Go.Ab Go.Bb
set_option maxRecDepth 1000000
theorem awake_true : AFn Tryz.prog 6 [] (.sc (.bool true)) := evF_ok (Env.memo_ok E0_ok mm_ok) (n := 100000) (E := E0.memo mm) (by kernel_rfl)
end Go.Proofs.Lh.ET
