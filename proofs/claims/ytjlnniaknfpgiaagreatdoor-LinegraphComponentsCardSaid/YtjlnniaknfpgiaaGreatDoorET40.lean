/-
  Part ET40 of this claim's proof. Joined by merge.py from the texts of wip/tpl.
-/
import Derived.Test.YtjlnniaknfpgiaaGreatDoorET3
set_option linter.unusedVariables false
set_option linter.unusedSimpArgs false
set_option linter.unnecessarySimpa false
namespace Go.Proofs.Lh.ET
open Go Go.Ab Go.Bb
set_option maxRecDepth 1000000
theorem f56_0 : AFn Tryz.prog 66 [pat0] r56_0 := evF_ok (Env.memo_ok E0_ok m46_ok) (n := 100000) (E := (E0.memo m46)) (by kernel_rfl)
theorem f82_0 : AFn Tryz.prog 91 [pat0] r82_0 := evF_ok (Env.memo_ok E0_ok m46_ok) (n := 100000) (E := (E0.memo m46)) (by kernel_rfl)
end Go.Proofs.Lh.ET
