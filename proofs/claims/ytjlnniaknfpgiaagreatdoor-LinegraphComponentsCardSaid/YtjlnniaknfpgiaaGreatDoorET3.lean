/-
  Part ET3 of this claim's proof. Joined by merge.py from the texts of wip/tpl.
-/
import Derived.Test.YtjlnniaknfpgiaaGreatDoorET20
import Derived.Test.YtjlnniaknfpgiaaGreatDoorET21
import Derived.Test.YtjlnniaknfpgiaaGreatDoorET22
set_option linter.unusedVariables false
set_option linter.unusedSimpArgs false
set_option linter.unnecessarySimpa false
namespace Go.Proofs.Lh.ET
open Go Go.Ab Go.Bb
set_option maxRecDepth 1000000
def m46 : List (Nat × List D × D) := [(56, [pat0], r46_0), (56, [pat1], r46_1), (56, [pat2], r46_2)] ++ m73
theorem m46_ok : MemOk Tryz.prog m46 := ⟨f46_0, ⟨f46_1, ⟨f46_2, m73_ok⟩⟩⟩
end Go.Proofs.Lh.ET
