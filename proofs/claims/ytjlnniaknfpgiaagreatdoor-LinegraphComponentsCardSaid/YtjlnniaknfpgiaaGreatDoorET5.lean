/-
  Part ET5 of this claim's proof. Joined by merge.py from the texts of wip/tpl.
-/
import Derived.Test.YtjlnniaknfpgiaaGreatDoorET40
import Derived.Test.YtjlnniaknfpgiaaGreatDoorET41
import Derived.Test.YtjlnniaknfpgiaaGreatDoorET42
set_option linter.unusedVariables false
set_option linter.unusedSimpArgs false
set_option linter.unnecessarySimpa false
namespace Go.Proofs.Lh.ET
open Go Go.Ab Go.Bb
set_option maxRecDepth 1000000
def mm : List (Nat × List D × D) := [(66, [pat0], r56_0), (66, [pat1], r56_1), (66, [pat2], r56_2), (91, [pat0], r82_0), (91, [pat1], r82_1), (91, [pat2], r82_2)] ++ m46
theorem mm_ok : MemOk Tryz.prog mm := ⟨f56_0, ⟨f56_1, ⟨f56_2, ⟨f82_0, ⟨f82_1, ⟨f82_2, m46_ok⟩⟩⟩⟩⟩⟩
end Go.Proofs.Lh.ET
