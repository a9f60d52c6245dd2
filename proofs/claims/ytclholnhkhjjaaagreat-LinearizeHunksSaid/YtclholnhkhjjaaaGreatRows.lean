/-
  No cell of these rows narrows 'for every input' (looked for: loops, veiled, ifaces, maps, wideKeys, modest, calm, conditions, laid).
  DERIVED. THE GIVEN ROWS OF THIS SEAT. 4 by the template 'for every input the law returns true; each argument reads behind the call as it read before'; 0 by the template 'total and deterministic' (their statements: YtclholnhkhjjaaaGreatTotals.lean).
  GIVEN WITH THE SEED: the statements are not yours to turn. If you find one false, say at which input.
  Laid BY PROGRAM, IN A SANDBOX (cutbox-rows.mjs): the forced cells as the released guide's own fill.sh prints them over the translation e9aeced0a59f8ed0… (all of the seat's roots in one cut). By AI agents, Wed Nov 11 2026. No macro, syntax, notation, axiom, sorry.
-/
import Derived.Test.YtclholnhkhjjaaaGreatChecked
import GoSem.Claim
import GoSem.ClaimJoined
import GoSem.ClaimMapViews
import Derived.JoinedTies
import Derived.KernelRfl
namespace Go.Proofs.YtclholnhkhjjaaaGreat
/- THE CELL 'sum', in the pinned program and in every row, IS THE sha256 OF THE DUMP (.gsa) THAT YtclholnhkhjjaaaGreatProg.lean LOADS. Nothing in Lean hashes anything: it is a label: what it is worth is what the hold of that sum in a sandbox is worth. -/
noncomputable def Tryz.pinned : Pinned := { name := "ytclholnhkhjjaaagreat", sum := "e9aeced0a59f8ed05d365478d7f0da438b356655e163cc70e9d335c44e782709", checked := Tryz.checked }
namespace Rows
def none {H : Type} : Left H := { results := [], args := [] }

/-- 'quiltlaw23.LinearizeRegions': WHATEVER THE INPUT: true; the input reads as it did. -/
def linearizeRegionsSpec : ChangeSpec := { name := "linearizeRegions", fn := fun _ => fun
  | [d] => { results := [.lit (.bool true)], args := [d] }
  | _ => none }
def linearizeRegionsRow : OpenClaim := { program := "ytclholnhkhjjaaagreat", sum := "e9aeced0a59f8ed05d365478d7f0da438b356655e163cc70e9d335c44e782709", func := "quilt/quiltlaw23.LinearizeRegions", spec := "linearizeRegions", inPlace := ["internal/bytealg.Compare"], unfollowed := true, recurses := true, plainKeys := false, apart := false }
def LinearizeRegionsSaid : Prop := linearizeRegionsRow.holds Tryz.pinned (OpenSpec.ofChange linearizeRegionsSpec)

/-- ITS FALSE NEIGHBOUR: 'it returns false'. Refute it at one input. -/
def linearizeRegionsWrong : ChangeSpec := { name := "linearizeRegions", fn := fun _ => fun
  | [d] => { results := [.lit (.bool false)], args := [d] }
  | _ => none }
def LinearizeRegionsWrongFalsely : Prop := linearizeRegionsRow.holds Tryz.pinned (OpenSpec.ofChange linearizeRegionsWrong)

/-- 'quiltlaw23.LinearizeDead': WHATEVER THE INPUT: true; the input reads as it did. -/
def linearizeDeadSpec : ChangeSpec := { name := "linearizeDead", fn := fun _ => fun
  | [d1, d2] => { results := [.lit (.bool true)], args := [d1, d2] }
  | _ => none }
def linearizeDeadRow : OpenClaim := { program := "ytclholnhkhjjaaagreat", sum := "e9aeced0a59f8ed05d365478d7f0da438b356655e163cc70e9d335c44e782709", func := "quilt/quiltlaw23.LinearizeDead", spec := "linearizeDead", inPlace := ["internal/bytealg.Compare"], unfollowed := true, recurses := true, plainKeys := false, apart := false }
def LinearizeDeadSaid : Prop := linearizeDeadRow.holds Tryz.pinned (OpenSpec.ofChange linearizeDeadSpec)

/-- ITS FALSE NEIGHBOUR: 'it returns false'. Refute it at one input. -/
def linearizeDeadWrong : ChangeSpec := { name := "linearizeDead", fn := fun _ => fun
  | [d1, d2] => { results := [.lit (.bool false)], args := [d1, d2] }
  | _ => none }
def LinearizeDeadWrongFalsely : Prop := linearizeDeadRow.holds Tryz.pinned (OpenSpec.ofChange linearizeDeadWrong)

/-- 'quiltlaw23.LinearizeText': WHATEVER THE INPUT: true; the input reads as it did. -/
def linearizeTextSpec : ChangeSpec := { name := "linearizeText", fn := fun _ => fun
  | [d1, d2] => { results := [.lit (.bool true)], args := [d1, d2] }
  | _ => none }
def linearizeTextRow : OpenClaim := { program := "ytclholnhkhjjaaagreat", sum := "e9aeced0a59f8ed05d365478d7f0da438b356655e163cc70e9d335c44e782709", func := "quilt/quiltlaw23.LinearizeText", spec := "linearizeText", inPlace := ["internal/bytealg.Compare"], unfollowed := true, recurses := true, plainKeys := false, apart := false }
def LinearizeTextSaid : Prop := linearizeTextRow.holds Tryz.pinned (OpenSpec.ofChange linearizeTextSpec)

/-- ITS FALSE NEIGHBOUR: 'it returns false'. Refute it at one input. -/
def linearizeTextWrong : ChangeSpec := { name := "linearizeText", fn := fun _ => fun
  | [d1, d2] => { results := [.lit (.bool false)], args := [d1, d2] }
  | _ => none }
def LinearizeTextWrongFalsely : Prop := linearizeTextRow.holds Tryz.pinned (OpenSpec.ofChange linearizeTextWrong)

/-- 'quiltlaw23.LinearizeHunks': WHATEVER THE INPUT: true; the input reads as it did. -/
def linearizeHunksSpec : ChangeSpec := { name := "linearizeHunks", fn := fun _ => fun
  | [d1, d2] => { results := [.lit (.bool true)], args := [d1, d2] }
  | _ => none }
def linearizeHunksRow : OpenClaim := { program := "ytclholnhkhjjaaagreat", sum := "e9aeced0a59f8ed05d365478d7f0da438b356655e163cc70e9d335c44e782709", func := "quilt/quiltlaw23.LinearizeHunks", spec := "linearizeHunks", inPlace := ["internal/bytealg.Compare"], unfollowed := true, recurses := true, plainKeys := false, apart := false }
def LinearizeHunksSaid : Prop := linearizeHunksRow.holds Tryz.pinned (OpenSpec.ofChange linearizeHunksSpec)

/-- ITS FALSE NEIGHBOUR: 'it returns false'. Refute it at one input. -/
def linearizeHunksWrong : ChangeSpec := { name := "linearizeHunks", fn := fun _ => fun
  | [d1, d2] => { results := [.lit (.bool false)], args := [d1, d2] }
  | _ => none }
def LinearizeHunksWrongFalsely : Prop := linearizeHunksRow.holds Tryz.pinned (OpenSpec.ofChange linearizeHunksWrong)

/- THE SECOND FORM. 'bulk': how many values and letters a reading holds, each counted each time it is reached (what is shared counts as often as it is met; a slice's spare places count too). A statement '..UptoSaid' is the law's where the arguments, and the package variables that the reading takes, are together of bulk at most 1048576: NARROWER than '..Said'. Prove '..Said' where nothing that the law and all that it calls make is longer than what came in: it says more and counts as full. Else prove '..UptoSaid'. A law counts once. -/
mutual
def uptoBulk {H : Type} : DataW H → Nat
  | .lit (.string bytes) => bytes.length + 1
  | .lit _ => 1
  | .nil => 1
  | .ptr d => uptoBulk d + 1
  | .slice elems spare => uptoBulkAll elems + uptoBulkAll spare + 1
  | .agg parts => uptoBulkAll parts + 1
  | .iface _ d => uptoBulk d + 1
  | .map entries => uptoBulkEntries entries + 1
  | .held _ => 1
def uptoBulkAll {H : Type} : List (DataW H) → Nat
  | [] => 0
  | d :: r => uptoBulk d + uptoBulkAll r
def uptoBulkEntries {H : Type} : List (Lit × DataW H) → Nat
  | [] => 0
  | x :: r => uptoBulkEntry x + uptoBulkEntries r
def uptoBulkEntry {H : Type} : Lit × DataW H → Nat
  | (.string bytes, d) => bytes.length + uptoBulk d + 1
  | (_, d) => uptoBulk d + 1
 end
def uptoSmall : (H : Type) → List (DataW H) → Bool := fun _ ds => decide (uptoBulkAll ds ≤ 1048576)
def OpenSpec.upto (s : _root_.Go.ChangeSpec) : _root_.Go.OpenSpec := { _root_.Go.OpenSpec.ofChange s with cond := some uptoSmall }

/-- 'quiltlaw23.LinearizeRegions', WHERE WHAT IT READS IS OF BULK AT MOST 1048576: true; the input reads as it did. -/
def linearizeRegionsUptoRow : OpenClaim := { program := "ytclholnhkhjjaaagreat", sum := "e9aeced0a59f8ed05d365478d7f0da438b356655e163cc70e9d335c44e782709", func := "quilt/quiltlaw23.LinearizeRegions", spec := "linearizeRegions", inPlace := ["internal/bytealg.Compare"], unfollowed := true, recurses := true, plainKeys := false, apart := false, narrowed := true }
def LinearizeRegionsUptoSaid : Prop := linearizeRegionsUptoRow.holds Tryz.pinned (OpenSpec.upto linearizeRegionsSpec)

/-- 'quiltlaw23.LinearizeDead', WHERE WHAT IT READS IS OF BULK AT MOST 1048576: true; the input reads as it did. -/
def linearizeDeadUptoRow : OpenClaim := { program := "ytclholnhkhjjaaagreat", sum := "e9aeced0a59f8ed05d365478d7f0da438b356655e163cc70e9d335c44e782709", func := "quilt/quiltlaw23.LinearizeDead", spec := "linearizeDead", inPlace := ["internal/bytealg.Compare"], unfollowed := true, recurses := true, plainKeys := false, apart := false, narrowed := true }
def LinearizeDeadUptoSaid : Prop := linearizeDeadUptoRow.holds Tryz.pinned (OpenSpec.upto linearizeDeadSpec)

/-- 'quiltlaw23.LinearizeText', WHERE WHAT IT READS IS OF BULK AT MOST 1048576: true; the input reads as it did. -/
def linearizeTextUptoRow : OpenClaim := { program := "ytclholnhkhjjaaagreat", sum := "e9aeced0a59f8ed05d365478d7f0da438b356655e163cc70e9d335c44e782709", func := "quilt/quiltlaw23.LinearizeText", spec := "linearizeText", inPlace := ["internal/bytealg.Compare"], unfollowed := true, recurses := true, plainKeys := false, apart := false, narrowed := true }
def LinearizeTextUptoSaid : Prop := linearizeTextUptoRow.holds Tryz.pinned (OpenSpec.upto linearizeTextSpec)

/-- 'quiltlaw23.LinearizeHunks', WHERE WHAT IT READS IS OF BULK AT MOST 1048576: true; the input reads as it did. -/
def linearizeHunksUptoRow : OpenClaim := { program := "ytclholnhkhjjaaagreat", sum := "e9aeced0a59f8ed05d365478d7f0da438b356655e163cc70e9d335c44e782709", func := "quilt/quiltlaw23.LinearizeHunks", spec := "linearizeHunks", inPlace := ["internal/bytealg.Compare"], unfollowed := true, recurses := true, plainKeys := false, apart := false, narrowed := true }
def LinearizeHunksUptoSaid : Prop := linearizeHunksUptoRow.holds Tryz.pinned (OpenSpec.upto linearizeHunksSpec)

end Rows
end Go.Proofs.YtclholnhkhjjaaaGreat
