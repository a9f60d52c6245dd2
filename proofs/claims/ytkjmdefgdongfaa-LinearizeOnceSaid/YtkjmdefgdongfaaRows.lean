/-
  No cell of these rows narrows 'for every input' (looked for: loops, veiled, ifaces, maps, wideKeys, modest, calm, conditions, laid).
  DERIVED. THE GIVEN ROWS OF THIS SEAT. 4 by the template 'for every input the law returns true; each argument reads behind the call as it read before'; 0 by the template 'total and deterministic' (their statements: YtkjmdefgdongfaaTotals.lean).
  GIVEN WITH THE SEED: the statements are not yours to turn. If you find one false, say at which input.
  Laid BY PROGRAM, IN A SANDBOX (cutbox-rows.mjs): the forced cells as the released guide's own fill.sh prints them over the translation 477191ba5365a9c3… (all of the seat's roots in one cut). By AI agents, Wed Nov 11 2026. No macro, syntax, notation, axiom, sorry.
-/
import Derived.Test.YtkjmdefgdongfaaChecked
import GoSem.Claim
import GoSem.ClaimJoined
import GoSem.ClaimMapViews
import Derived.JoinedTies
import Derived.KernelRfl
namespace Go.Proofs.Ytkjmdefgdongfaa
/- THE CELL 'sum', in the pinned program and in every row, IS THE sha256 OF THE DUMP (.gsa) THAT YtkjmdefgdongfaaProg.lean LOADS. Nothing in Lean hashes anything: it is a label: what it is worth is what the hold of that sum in a sandbox is worth. -/
noncomputable def Try.pinned : Pinned := { name := "ytkjmdefgdongfaa", sum := "477191ba5365a9c3ed7ba72aa02d3c80dafca9428937965083c4a1bfa2dbbc6b", checked := Try.checked }
namespace Rows
def none {H : Type} : Left H := { results := [], args := [] }

/-- 'quiltlaw23.LinearizeOrder': WHATEVER THE INPUT: true; the input reads as it did. -/
def linearizeOrderSpec : ChangeSpec := { name := "linearizeOrder", fn := fun _ => fun
  | [d] => { results := [.lit (.bool true)], args := [d] }
  | _ => none }
def linearizeOrderRow : OpenClaim := { program := "ytkjmdefgdongfaa", sum := "477191ba5365a9c3ed7ba72aa02d3c80dafca9428937965083c4a1bfa2dbbc6b", func := "quilt/quiltlaw23.LinearizeOrder", spec := "linearizeOrder", inPlace := ["internal/bytealg.Compare"], unfollowed := true, recurses := true, apart := false }
def LinearizeOrderSaid : Prop := linearizeOrderRow.holds Try.pinned (OpenSpec.ofChange linearizeOrderSpec)

/-- ITS FALSE NEIGHBOUR: 'it returns false'. Refute it at one input. -/
def linearizeOrderWrong : ChangeSpec := { name := "linearizeOrder", fn := fun _ => fun
  | [d] => { results := [.lit (.bool false)], args := [d] }
  | _ => none }
def LinearizeOrderWrongFalsely : Prop := linearizeOrderRow.holds Try.pinned (OpenSpec.ofChange linearizeOrderWrong)

/-- 'quiltlaw23.LinearizeCertain': WHATEVER THE INPUT: true; the input reads as it did. -/
def linearizeCertainSpec : ChangeSpec := { name := "linearizeCertain", fn := fun _ => fun
  | [d] => { results := [.lit (.bool true)], args := [d] }
  | _ => none }
def linearizeCertainRow : OpenClaim := { program := "ytkjmdefgdongfaa", sum := "477191ba5365a9c3ed7ba72aa02d3c80dafca9428937965083c4a1bfa2dbbc6b", func := "quilt/quiltlaw23.LinearizeCertain", spec := "linearizeCertain", inPlace := ["internal/bytealg.Compare"], unfollowed := true, recurses := true, apart := false }
def LinearizeCertainSaid : Prop := linearizeCertainRow.holds Try.pinned (OpenSpec.ofChange linearizeCertainSpec)

/-- ITS FALSE NEIGHBOUR: 'it returns false'. Refute it at one input. -/
def linearizeCertainWrong : ChangeSpec := { name := "linearizeCertain", fn := fun _ => fun
  | [d] => { results := [.lit (.bool false)], args := [d] }
  | _ => none }
def LinearizeCertainWrongFalsely : Prop := linearizeCertainRow.holds Try.pinned (OpenSpec.ofChange linearizeCertainWrong)

/-- 'quiltlaw23.LinearizeSides': WHATEVER THE INPUT: true; the input reads as it did. -/
def linearizeSidesSpec : ChangeSpec := { name := "linearizeSides", fn := fun _ => fun
  | [d] => { results := [.lit (.bool true)], args := [d] }
  | _ => none }
def linearizeSidesRow : OpenClaim := { program := "ytkjmdefgdongfaa", sum := "477191ba5365a9c3ed7ba72aa02d3c80dafca9428937965083c4a1bfa2dbbc6b", func := "quilt/quiltlaw23.LinearizeSides", spec := "linearizeSides", inPlace := ["internal/bytealg.Compare"], unfollowed := true, recurses := true, apart := false }
def LinearizeSidesSaid : Prop := linearizeSidesRow.holds Try.pinned (OpenSpec.ofChange linearizeSidesSpec)

/-- ITS FALSE NEIGHBOUR: 'it returns false'. Refute it at one input. -/
def linearizeSidesWrong : ChangeSpec := { name := "linearizeSides", fn := fun _ => fun
  | [d] => { results := [.lit (.bool false)], args := [d] }
  | _ => none }
def LinearizeSidesWrongFalsely : Prop := linearizeSidesRow.holds Try.pinned (OpenSpec.ofChange linearizeSidesWrong)

/-- 'quiltlaw23.LinearizeOnce': WHATEVER THE INPUT: true; the input reads as it did. -/
def linearizeOnceSpec : ChangeSpec := { name := "linearizeOnce", fn := fun _ => fun
  | [d] => { results := [.lit (.bool true)], args := [d] }
  | _ => none }
def linearizeOnceRow : OpenClaim := { program := "ytkjmdefgdongfaa", sum := "477191ba5365a9c3ed7ba72aa02d3c80dafca9428937965083c4a1bfa2dbbc6b", func := "quilt/quiltlaw23.LinearizeOnce", spec := "linearizeOnce", inPlace := ["internal/bytealg.Compare"], unfollowed := true, recurses := true, apart := false }
def LinearizeOnceSaid : Prop := linearizeOnceRow.holds Try.pinned (OpenSpec.ofChange linearizeOnceSpec)

/-- ITS FALSE NEIGHBOUR: 'it returns false'. Refute it at one input. -/
def linearizeOnceWrong : ChangeSpec := { name := "linearizeOnce", fn := fun _ => fun
  | [d] => { results := [.lit (.bool false)], args := [d] }
  | _ => none }
def LinearizeOnceWrongFalsely : Prop := linearizeOnceRow.holds Try.pinned (OpenSpec.ofChange linearizeOnceWrong)

/- THE SECOND FORM. 'bulk': how many values and letters a reading holds, each counted each time it is reached (what is shared counts as often as it is met; a slice's spare places count too). A statement '..UptoSaid' is the law's where the arguments, and the package variables that the reading takes, are together of bulk at most 1048576: NARROWER than '..Said'. Prove '..Said' where nothing that the law and all that it calls make is longer than what came in: it says more and counts as full. Else prove '..UptoSaid'. A law counts once. -/
mutual
def uptoBulk {H : Type} : DataW H → Nat
  | .lit (.string bytes) => bytes.length + 1
  | .lit _ => 1
  | .nil => 1
  | .ptr d => uptoBulk d + 1
  | .slice elems spare => uptoBulkAll elems + uptoBulkAll spare + 1
  | .agg parts => uptoBulkAll parts + 1
  | .iface _ d => uptoBulk d + 1
  | .map entries => uptoBulkEntries entries + 1
  | .held _ => 1
def uptoBulkAll {H : Type} : List (DataW H) → Nat
  | [] => 0
  | d :: r => uptoBulk d + uptoBulkAll r
def uptoBulkEntries {H : Type} : List (Lit × DataW H) → Nat
  | [] => 0
  | x :: r => uptoBulkEntry x + uptoBulkEntries r
def uptoBulkEntry {H : Type} : Lit × DataW H → Nat
  | (.string bytes, d) => bytes.length + uptoBulk d + 1
  | (_, d) => uptoBulk d + 1
 end
def uptoSmall : (H : Type) → List (DataW H) → Bool := fun _ ds => decide (uptoBulkAll ds ≤ 1048576)
def OpenSpec.upto (s : _root_.Go.ChangeSpec) : _root_.Go.OpenSpec := { _root_.Go.OpenSpec.ofChange s with cond := some uptoSmall }

/-- 'quiltlaw23.LinearizeOrder', WHERE WHAT IT READS IS OF BULK AT MOST 1048576: true; the input reads as it did. -/
def linearizeOrderUptoRow : OpenClaim := { program := "ytkjmdefgdongfaa", sum := "477191ba5365a9c3ed7ba72aa02d3c80dafca9428937965083c4a1bfa2dbbc6b", func := "quilt/quiltlaw23.LinearizeOrder", spec := "linearizeOrder", inPlace := ["internal/bytealg.Compare"], unfollowed := true, recurses := true, apart := false, narrowed := true }
def LinearizeOrderUptoSaid : Prop := linearizeOrderUptoRow.holds Try.pinned (OpenSpec.upto linearizeOrderSpec)

/-- 'quiltlaw23.LinearizeCertain', WHERE WHAT IT READS IS OF BULK AT MOST 1048576: true; the input reads as it did. -/
def linearizeCertainUptoRow : OpenClaim := { program := "ytkjmdefgdongfaa", sum := "477191ba5365a9c3ed7ba72aa02d3c80dafca9428937965083c4a1bfa2dbbc6b", func := "quilt/quiltlaw23.LinearizeCertain", spec := "linearizeCertain", inPlace := ["internal/bytealg.Compare"], unfollowed := true, recurses := true, apart := false, narrowed := true }
def LinearizeCertainUptoSaid : Prop := linearizeCertainUptoRow.holds Try.pinned (OpenSpec.upto linearizeCertainSpec)

/-- 'quiltlaw23.LinearizeSides', WHERE WHAT IT READS IS OF BULK AT MOST 1048576: true; the input reads as it did. -/
def linearizeSidesUptoRow : OpenClaim := { program := "ytkjmdefgdongfaa", sum := "477191ba5365a9c3ed7ba72aa02d3c80dafca9428937965083c4a1bfa2dbbc6b", func := "quilt/quiltlaw23.LinearizeSides", spec := "linearizeSides", inPlace := ["internal/bytealg.Compare"], unfollowed := true, recurses := true, apart := false, narrowed := true }
def LinearizeSidesUptoSaid : Prop := linearizeSidesUptoRow.holds Try.pinned (OpenSpec.upto linearizeSidesSpec)

/-- 'quiltlaw23.LinearizeOnce', WHERE WHAT IT READS IS OF BULK AT MOST 1048576: true; the input reads as it did. -/
def linearizeOnceUptoRow : OpenClaim := { program := "ytkjmdefgdongfaa", sum := "477191ba5365a9c3ed7ba72aa02d3c80dafca9428937965083c4a1bfa2dbbc6b", func := "quilt/quiltlaw23.LinearizeOnce", spec := "linearizeOnce", inPlace := ["internal/bytealg.Compare"], unfollowed := true, recurses := true, apart := false, narrowed := true }
def LinearizeOnceUptoSaid : Prop := linearizeOnceUptoRow.holds Try.pinned (OpenSpec.upto linearizeOnceSpec)

end Rows
end Go.Proofs.Ytkjmdefgdongfaa
