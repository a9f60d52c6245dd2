/-
  Part ET22 of this claim's proof. Joined by merge.py from the texts of wip/tpl.
-/
import Derived.Test.YtjlnniaknfpgiaaGreatDoorET1
set_option linter.unusedVariables false
set_option linter.unusedSimpArgs false
set_option linter.unnecessarySimpa false
namespace Go.Proofs.Lh.ET
open Go Go.Ab Go.Bb
set_option maxRecDepth 1000000
theorem f46_2 : AFn Tryz.prog 56 [pat2] r46_2 := evF_ok (Env.memo_ok E1_ok mh_ok) (n := 100000) (E := (E1.memo mh)) (by kernel_rfl)
end Go.Proofs.Lh.ET
