/-
  NARROWER THAN 'FOR EVERY INPUT', by the rows' own cells (each row's printed sentence says how): UnrecordRemove: laid · UnrecordNever: laid · UnrecordPurges: laid · UnrecordDead: laid · UnrecordTwice: laid · UnrecordRollback: laid · UnrecordAmends: laid.
  DERIVED. THE GIVEN ROWS OF THIS SEAT. 7 by the template 'for every input the law returns true; each argument reads behind the call as it read before'; 0 by the template 'total and deterministic' (their statements: YtfoljakejdgfcaaGreatDoorTotals.lean).
  GIVEN WITH THE SEED: the statements are not yours to turn. If you find one false, say at which input.
  Laid BY PROGRAM, IN A SANDBOX (cutbox-rows.mjs): the forced cells as the released guide's own fill.sh prints them over the translation 45044a754fe8e83a… (all of the seat's roots in one cut). By AI agents, Wed Nov 11 2026. No macro, syntax, notation, axiom, sorry.
-/
import Derived.Test.YtfoljakejdgfcaaGreatDoorChecked
import GoSem.Claim
import GoSem.ClaimJoined
import GoSem.ClaimMapViews
import Derived.JoinedTies
import Derived.KernelRfl
namespace Go.Proofs.YtfoljakejdgfcaaGreatDoor
/- THE CELL 'sum', in the pinned program and in every row, IS THE sha256 OF THE DUMP (.gsa) THAT YtfoljakejdgfcaaGreatDoorProg.lean LOADS. Nothing in Lean hashes anything: it is a label: what it is worth is what the hold of that sum in a sandbox is worth. -/
noncomputable def Tryz.pinned : Pinned := { name := "ytfoljakejdgfcaagreatdoor", sum := "45044a754fe8e83af63dc68c20fb374cfbc42d19fa0f01093b478bb44b27e671", checked := Tryz.checked }
namespace Rows
def none {H : Type} : Left H := { results := [], args := [] }

/- WHAT THE LISTED PACKAGE-LEVEL VARIABLES READ AS WHEN THE CALL BEGINS. Each datum BY PROGRAM (the guide's laid-datum.mjs) off the statement by which the dump's own 'gosem.cut.vars' lays the variable. In a bare row this is a premise. The card (YtfoljakejdgfcaaGreatDoorCards.lean) ties it to the program's text. -/
def laid_math_bits_deBruijn32tab {H : Type} : DataW H := .agg [.lit (.int .u8 0), .lit (.int .u8 1), .lit (.int .u8 28), .lit (.int .u8 2), .lit (.int .u8 29), .lit (.int .u8 14), .lit (.int .u8 24), .lit (.int .u8 3), .lit (.int .u8 30), .lit (.int .u8 22), .lit (.int .u8 20), .lit (.int .u8 15), .lit (.int .u8 25), .lit (.int .u8 17), .lit (.int .u8 4), .lit (.int .u8 8), .lit (.int .u8 31), .lit (.int .u8 27), .lit (.int .u8 13), .lit (.int .u8 23), .lit (.int .u8 21), .lit (.int .u8 19), .lit (.int .u8 16), .lit (.int .u8 7), .lit (.int .u8 26), .lit (.int .u8 12), .lit (.int .u8 18), .lit (.int .u8 6), .lit (.int .u8 11), .lit (.int .u8 5), .lit (.int .u8 10), .lit (.int .u8 9)]
def laid_math_bits_deBruijn64tab {H : Type} : DataW H := .agg [.lit (.int .u8 0), .lit (.int .u8 1), .lit (.int .u8 56), .lit (.int .u8 2), .lit (.int .u8 57), .lit (.int .u8 49), .lit (.int .u8 28), .lit (.int .u8 3), .lit (.int .u8 61), .lit (.int .u8 58), .lit (.int .u8 42), .lit (.int .u8 50), .lit (.int .u8 38), .lit (.int .u8 29), .lit (.int .u8 17), .lit (.int .u8 4), .lit (.int .u8 62), .lit (.int .u8 47), .lit (.int .u8 59), .lit (.int .u8 36), .lit (.int .u8 45), .lit (.int .u8 43), .lit (.int .u8 51), .lit (.int .u8 22), .lit (.int .u8 53), .lit (.int .u8 39), .lit (.int .u8 33), .lit (.int .u8 30), .lit (.int .u8 24), .lit (.int .u8 18), .lit (.int .u8 12), .lit (.int .u8 5), .lit (.int .u8 63), .lit (.int .u8 55), .lit (.int .u8 48), .lit (.int .u8 27), .lit (.int .u8 60), .lit (.int .u8 41), .lit (.int .u8 37), .lit (.int .u8 16), .lit (.int .u8 46), .lit (.int .u8 35), .lit (.int .u8 44), .lit (.int .u8 21), .lit (.int .u8 52), .lit (.int .u8 32), .lit (.int .u8 23), .lit (.int .u8 11), .lit (.int .u8 54), .lit (.int .u8 26), .lit (.int .u8 40), .lit (.int .u8 15), .lit (.int .u8 34), .lit (.int .u8 20), .lit (.int .u8 31), .lit (.int .u8 10), .lit (.int .u8 25), .lit (.int .u8 14), .lit (.int .u8 19), .lit (.int .u8 9), .lit (.int .u8 13), .lit (.int .u8 8), .lit (.int .u8 7), .lit (.int .u8 6)]
def laid_internal_strconv_uint64pow10 {H : Type} : DataW H := .agg [.lit (.int .u64 1), .lit (.int .u64 10), .lit (.int .u64 100), .lit (.int .u64 1000), .lit (.int .u64 10000), .lit (.int .u64 100000), .lit (.int .u64 1000000), .lit (.int .u64 10000000), .lit (.int .u64 100000000), .lit (.int .u64 1000000000), .lit (.int .u64 10000000000), .lit (.int .u64 100000000000), .lit (.int .u64 1000000000000), .lit (.int .u64 10000000000000), .lit (.int .u64 100000000000000), .lit (.int .u64 1000000000000000), .lit (.int .u64 10000000000000000), .lit (.int .u64 100000000000000000), .lit (.int .u64 1000000000000000000), .lit (.int .u64 10000000000000000000)]

/-- 'quiltlaw28.UnrecordRemove': WHATEVER THE INPUT: true; the input reads as it did. -/
def unrecordRemoveSpec : ChangeSpec := { name := "unrecordRemove", fn := fun _ => fun
  | [d1, d2, d3] => { results := [.lit (.bool true)], args := [d1, d2, d3] }
  | _ => none }
def unrecordRemoveRow : OpenClaim := { program := "ytfoljakejdgfcaagreatdoor", sum := "45044a754fe8e83af63dc68c20fb374cfbc42d19fa0f01093b478bb44b27e671", func := "quilt/quiltlaw28.UnrecordRemove", spec := "unrecordRemove", inPlace := ["internal/bytealg.Compare", "internal/bytealg.IndexByteString", "internal/abi.NoEscape"], unfollowed := true, recurses := true, named := ["internal/strconv.uint64pow10", "math/bits.deBruijn32tab", "math/bits.deBruijn64tab"], plainKeys := false, apart := false, laid := [("math/bits.deBruijn32tab", laid_math_bits_deBruijn32tab), ("math/bits.deBruijn64tab", laid_math_bits_deBruijn64tab), ("internal/strconv.uint64pow10", laid_internal_strconv_uint64pow10)] }
def UnrecordRemoveSaid : Prop := unrecordRemoveRow.holds Tryz.pinned (OpenSpec.ofChange unrecordRemoveSpec)

/-- ITS FALSE NEIGHBOUR: 'it returns false'. Refute it at one input. -/
def unrecordRemoveWrong : ChangeSpec := { name := "unrecordRemove", fn := fun _ => fun
  | [d1, d2, d3] => { results := [.lit (.bool false)], args := [d1, d2, d3] }
  | _ => none }
def UnrecordRemoveWrongFalsely : Prop := unrecordRemoveRow.holds Tryz.pinned (OpenSpec.ofChange unrecordRemoveWrong)

/-- 'quiltlaw28.UnrecordNever': WHATEVER THE INPUT: true; the input reads as it did. -/
def unrecordNeverSpec : ChangeSpec := { name := "unrecordNever", fn := fun _ => fun
  | [d1, d2, d3] => { results := [.lit (.bool true)], args := [d1, d2, d3] }
  | _ => none }
def unrecordNeverRow : OpenClaim := { program := "ytfoljakejdgfcaagreatdoor", sum := "45044a754fe8e83af63dc68c20fb374cfbc42d19fa0f01093b478bb44b27e671", func := "quilt/quiltlaw28.UnrecordNever", spec := "unrecordNever", inPlace := ["internal/bytealg.Compare", "internal/bytealg.IndexByteString", "internal/abi.NoEscape"], unfollowed := true, recurses := true, named := ["internal/strconv.uint64pow10", "math/bits.deBruijn32tab", "math/bits.deBruijn64tab"], plainKeys := false, apart := false, laid := [("math/bits.deBruijn32tab", laid_math_bits_deBruijn32tab), ("math/bits.deBruijn64tab", laid_math_bits_deBruijn64tab), ("internal/strconv.uint64pow10", laid_internal_strconv_uint64pow10)] }
def UnrecordNeverSaid : Prop := unrecordNeverRow.holds Tryz.pinned (OpenSpec.ofChange unrecordNeverSpec)

/-- ITS FALSE NEIGHBOUR: 'it returns false'. Refute it at one input. -/
def unrecordNeverWrong : ChangeSpec := { name := "unrecordNever", fn := fun _ => fun
  | [d1, d2, d3] => { results := [.lit (.bool false)], args := [d1, d2, d3] }
  | _ => none }
def UnrecordNeverWrongFalsely : Prop := unrecordNeverRow.holds Tryz.pinned (OpenSpec.ofChange unrecordNeverWrong)

/-- 'quiltlaw28.UnrecordPurges': WHATEVER THE INPUT: true; the input reads as it did. -/
def unrecordPurgesSpec : ChangeSpec := { name := "unrecordPurges", fn := fun _ => fun
  | [d1, d2] => { results := [.lit (.bool true)], args := [d1, d2] }
  | _ => none }
def unrecordPurgesRow : OpenClaim := { program := "ytfoljakejdgfcaagreatdoor", sum := "45044a754fe8e83af63dc68c20fb374cfbc42d19fa0f01093b478bb44b27e671", func := "quilt/quiltlaw28.UnrecordPurges", spec := "unrecordPurges", inPlace := ["internal/bytealg.Compare", "internal/bytealg.IndexByteString", "internal/abi.NoEscape"], unfollowed := true, recurses := true, named := ["internal/strconv.uint64pow10", "math/bits.deBruijn32tab", "math/bits.deBruijn64tab"], plainKeys := false, apart := false, laid := [("math/bits.deBruijn32tab", laid_math_bits_deBruijn32tab), ("math/bits.deBruijn64tab", laid_math_bits_deBruijn64tab), ("internal/strconv.uint64pow10", laid_internal_strconv_uint64pow10)] }
def UnrecordPurgesSaid : Prop := unrecordPurgesRow.holds Tryz.pinned (OpenSpec.ofChange unrecordPurgesSpec)

/-- ITS FALSE NEIGHBOUR: 'it returns false'. Refute it at one input. -/
def unrecordPurgesWrong : ChangeSpec := { name := "unrecordPurges", fn := fun _ => fun
  | [d1, d2] => { results := [.lit (.bool false)], args := [d1, d2] }
  | _ => none }
def UnrecordPurgesWrongFalsely : Prop := unrecordPurgesRow.holds Tryz.pinned (OpenSpec.ofChange unrecordPurgesWrong)

/-- 'quiltlaw28.UnrecordDead': WHATEVER THE INPUT: true; the input reads as it did. -/
def unrecordDeadSpec : ChangeSpec := { name := "unrecordDead", fn := fun _ => fun
  | [d1, d2, d3] => { results := [.lit (.bool true)], args := [d1, d2, d3] }
  | _ => none }
def unrecordDeadRow : OpenClaim := { program := "ytfoljakejdgfcaagreatdoor", sum := "45044a754fe8e83af63dc68c20fb374cfbc42d19fa0f01093b478bb44b27e671", func := "quilt/quiltlaw28.UnrecordDead", spec := "unrecordDead", inPlace := ["internal/bytealg.Compare", "internal/bytealg.IndexByteString", "internal/abi.NoEscape"], unfollowed := true, recurses := true, named := ["internal/strconv.uint64pow10", "math/bits.deBruijn32tab", "math/bits.deBruijn64tab"], plainKeys := false, apart := false, laid := [("math/bits.deBruijn32tab", laid_math_bits_deBruijn32tab), ("math/bits.deBruijn64tab", laid_math_bits_deBruijn64tab), ("internal/strconv.uint64pow10", laid_internal_strconv_uint64pow10)] }
def UnrecordDeadSaid : Prop := unrecordDeadRow.holds Tryz.pinned (OpenSpec.ofChange unrecordDeadSpec)

/-- ITS FALSE NEIGHBOUR: 'it returns false'. Refute it at one input. -/
def unrecordDeadWrong : ChangeSpec := { name := "unrecordDead", fn := fun _ => fun
  | [d1, d2, d3] => { results := [.lit (.bool false)], args := [d1, d2, d3] }
  | _ => none }
def UnrecordDeadWrongFalsely : Prop := unrecordDeadRow.holds Tryz.pinned (OpenSpec.ofChange unrecordDeadWrong)

/-- 'quiltlaw28.UnrecordTwice': WHATEVER THE INPUT: true; the input reads as it did. -/
def unrecordTwiceSpec : ChangeSpec := { name := "unrecordTwice", fn := fun _ => fun
  | [d1, d2, d3] => { results := [.lit (.bool true)], args := [d1, d2, d3] }
  | _ => none }
def unrecordTwiceRow : OpenClaim := { program := "ytfoljakejdgfcaagreatdoor", sum := "45044a754fe8e83af63dc68c20fb374cfbc42d19fa0f01093b478bb44b27e671", func := "quilt/quiltlaw28.UnrecordTwice", spec := "unrecordTwice", inPlace := ["internal/bytealg.Compare", "internal/bytealg.IndexByteString", "internal/abi.NoEscape"], unfollowed := true, recurses := true, named := ["internal/strconv.uint64pow10", "math/bits.deBruijn32tab", "math/bits.deBruijn64tab"], plainKeys := false, apart := false, laid := [("math/bits.deBruijn32tab", laid_math_bits_deBruijn32tab), ("math/bits.deBruijn64tab", laid_math_bits_deBruijn64tab), ("internal/strconv.uint64pow10", laid_internal_strconv_uint64pow10)] }
def UnrecordTwiceSaid : Prop := unrecordTwiceRow.holds Tryz.pinned (OpenSpec.ofChange unrecordTwiceSpec)

/-- ITS FALSE NEIGHBOUR: 'it returns false'. Refute it at one input. -/
def unrecordTwiceWrong : ChangeSpec := { name := "unrecordTwice", fn := fun _ => fun
  | [d1, d2, d3] => { results := [.lit (.bool false)], args := [d1, d2, d3] }
  | _ => none }
def UnrecordTwiceWrongFalsely : Prop := unrecordTwiceRow.holds Tryz.pinned (OpenSpec.ofChange unrecordTwiceWrong)

/-- 'quiltlaw28.UnrecordRollback': WHATEVER THE INPUT: true; the input reads as it did. -/
def unrecordRollbackSpec : ChangeSpec := { name := "unrecordRollback", fn := fun _ => fun
  | [d1, d2, d3] => { results := [.lit (.bool true)], args := [d1, d2, d3] }
  | _ => none }
def unrecordRollbackRow : OpenClaim := { program := "ytfoljakejdgfcaagreatdoor", sum := "45044a754fe8e83af63dc68c20fb374cfbc42d19fa0f01093b478bb44b27e671", func := "quilt/quiltlaw28.UnrecordRollback", spec := "unrecordRollback", inPlace := ["internal/bytealg.Compare", "internal/bytealg.IndexByteString", "internal/abi.NoEscape", "slices.overlaps[quilt/api.Stored]"], unfollowed := true, recurses := true, named := ["internal/strconv.uint64pow10", "math/bits.deBruijn32tab", "math/bits.deBruijn64tab"], plainKeys := false, apart := false, laid := [("math/bits.deBruijn32tab", laid_math_bits_deBruijn32tab), ("math/bits.deBruijn64tab", laid_math_bits_deBruijn64tab), ("internal/strconv.uint64pow10", laid_internal_strconv_uint64pow10)] }
def UnrecordRollbackSaid : Prop := unrecordRollbackRow.holds Tryz.pinned (OpenSpec.ofChange unrecordRollbackSpec)

/-- ITS FALSE NEIGHBOUR: 'it returns false'. Refute it at one input. -/
def unrecordRollbackWrong : ChangeSpec := { name := "unrecordRollback", fn := fun _ => fun
  | [d1, d2, d3] => { results := [.lit (.bool false)], args := [d1, d2, d3] }
  | _ => none }
def UnrecordRollbackWrongFalsely : Prop := unrecordRollbackRow.holds Tryz.pinned (OpenSpec.ofChange unrecordRollbackWrong)

/-- 'quiltlaw28.UnrecordAmends': WHATEVER THE INPUT: true; the input reads as it did. -/
def unrecordAmendsSpec : ChangeSpec := { name := "unrecordAmends", fn := fun _ => fun
  | [d1, d2, d3] => { results := [.lit (.bool true)], args := [d1, d2, d3] }
  | _ => none }
def unrecordAmendsRow : OpenClaim := { program := "ytfoljakejdgfcaagreatdoor", sum := "45044a754fe8e83af63dc68c20fb374cfbc42d19fa0f01093b478bb44b27e671", func := "quilt/quiltlaw28.UnrecordAmends", spec := "unrecordAmends", inPlace := ["internal/bytealg.Compare", "internal/bytealg.IndexByteString", "internal/abi.NoEscape", "slices.overlaps[quilt/api.Stored]"], unfollowed := true, recurses := true, named := ["internal/strconv.uint64pow10", "math/bits.deBruijn32tab", "math/bits.deBruijn64tab"], plainKeys := false, apart := false, laid := [("math/bits.deBruijn32tab", laid_math_bits_deBruijn32tab), ("math/bits.deBruijn64tab", laid_math_bits_deBruijn64tab), ("internal/strconv.uint64pow10", laid_internal_strconv_uint64pow10)] }
def UnrecordAmendsSaid : Prop := unrecordAmendsRow.holds Tryz.pinned (OpenSpec.ofChange unrecordAmendsSpec)

/-- ITS FALSE NEIGHBOUR: 'it returns false'. Refute it at one input. -/
def unrecordAmendsWrong : ChangeSpec := { name := "unrecordAmends", fn := fun _ => fun
  | [d1, d2, d3] => { results := [.lit (.bool false)], args := [d1, d2, d3] }
  | _ => none }
def UnrecordAmendsWrongFalsely : Prop := unrecordAmendsRow.holds Tryz.pinned (OpenSpec.ofChange unrecordAmendsWrong)

/- THE SECOND FORM. 'bulk': how many values and letters a reading holds, each counted each time it is reached (what is shared counts as often as it is met; a slice's spare places count too). A statement '..UptoSaid' is the law's where the arguments, and the package variables that the reading takes, are together of bulk at most 1048576: NARROWER than '..Said'. Prove '..Said' where nothing that the law and all that it calls make is longer than what came in: it says more and counts as full. Else prove '..UptoSaid'. A law counts once. -/
mutual
def uptoBulk {H : Type} : DataW H → Nat
  | .lit (.string bytes) => bytes.length + 1
  | .lit _ => 1
  | .nil => 1
  | .ptr d => uptoBulk d + 1
  | .slice elems spare => uptoBulkAll elems + uptoBulkAll spare + 1
  | .agg parts => uptoBulkAll parts + 1
  | .iface _ d => uptoBulk d + 1
  | .map entries => uptoBulkEntries entries + 1
  | .held _ => 1
def uptoBulkAll {H : Type} : List (DataW H) → Nat
  | [] => 0
  | d :: r => uptoBulk d + uptoBulkAll r
def uptoBulkEntries {H : Type} : List (Lit × DataW H) → Nat
  | [] => 0
  | x :: r => uptoBulkEntry x + uptoBulkEntries r
def uptoBulkEntry {H : Type} : Lit × DataW H → Nat
  | (.string bytes, d) => bytes.length + uptoBulk d + 1
  | (_, d) => uptoBulk d + 1
 end
def uptoSmall : (H : Type) → List (DataW H) → Bool := fun _ ds => decide (uptoBulkAll ds ≤ 1048576)
def OpenSpec.upto (s : _root_.Go.ChangeSpec) : _root_.Go.OpenSpec := { _root_.Go.OpenSpec.ofChange s with cond := some uptoSmall }

/-- 'quiltlaw28.UnrecordRemove', WHERE WHAT IT READS IS OF BULK AT MOST 1048576: true; the input reads as it did. -/
def unrecordRemoveUptoRow : OpenClaim := { program := "ytfoljakejdgfcaagreatdoor", sum := "45044a754fe8e83af63dc68c20fb374cfbc42d19fa0f01093b478bb44b27e671", func := "quilt/quiltlaw28.UnrecordRemove", spec := "unrecordRemove", inPlace := ["internal/bytealg.Compare", "internal/bytealg.IndexByteString", "internal/abi.NoEscape"], unfollowed := true, recurses := true, named := ["internal/strconv.uint64pow10", "math/bits.deBruijn32tab", "math/bits.deBruijn64tab"], plainKeys := false, apart := false, laid := [("math/bits.deBruijn32tab", laid_math_bits_deBruijn32tab), ("math/bits.deBruijn64tab", laid_math_bits_deBruijn64tab), ("internal/strconv.uint64pow10", laid_internal_strconv_uint64pow10)], narrowed := true }
def UnrecordRemoveUptoSaid : Prop := unrecordRemoveUptoRow.holds Tryz.pinned (OpenSpec.upto unrecordRemoveSpec)

/-- 'quiltlaw28.UnrecordNever', WHERE WHAT IT READS IS OF BULK AT MOST 1048576: true; the input reads as it did. -/
def unrecordNeverUptoRow : OpenClaim := { program := "ytfoljakejdgfcaagreatdoor", sum := "45044a754fe8e83af63dc68c20fb374cfbc42d19fa0f01093b478bb44b27e671", func := "quilt/quiltlaw28.UnrecordNever", spec := "unrecordNever", inPlace := ["internal/bytealg.Compare", "internal/bytealg.IndexByteString", "internal/abi.NoEscape"], unfollowed := true, recurses := true, named := ["internal/strconv.uint64pow10", "math/bits.deBruijn32tab", "math/bits.deBruijn64tab"], plainKeys := false, apart := false, laid := [("math/bits.deBruijn32tab", laid_math_bits_deBruijn32tab), ("math/bits.deBruijn64tab", laid_math_bits_deBruijn64tab), ("internal/strconv.uint64pow10", laid_internal_strconv_uint64pow10)], narrowed := true }
def UnrecordNeverUptoSaid : Prop := unrecordNeverUptoRow.holds Tryz.pinned (OpenSpec.upto unrecordNeverSpec)

/-- 'quiltlaw28.UnrecordPurges', WHERE WHAT IT READS IS OF BULK AT MOST 1048576: true; the input reads as it did. -/
def unrecordPurgesUptoRow : OpenClaim := { program := "ytfoljakejdgfcaagreatdoor", sum := "45044a754fe8e83af63dc68c20fb374cfbc42d19fa0f01093b478bb44b27e671", func := "quilt/quiltlaw28.UnrecordPurges", spec := "unrecordPurges", inPlace := ["internal/bytealg.Compare", "internal/bytealg.IndexByteString", "internal/abi.NoEscape"], unfollowed := true, recurses := true, named := ["internal/strconv.uint64pow10", "math/bits.deBruijn32tab", "math/bits.deBruijn64tab"], plainKeys := false, apart := false, laid := [("math/bits.deBruijn32tab", laid_math_bits_deBruijn32tab), ("math/bits.deBruijn64tab", laid_math_bits_deBruijn64tab), ("internal/strconv.uint64pow10", laid_internal_strconv_uint64pow10)], narrowed := true }
def UnrecordPurgesUptoSaid : Prop := unrecordPurgesUptoRow.holds Tryz.pinned (OpenSpec.upto unrecordPurgesSpec)

/-- 'quiltlaw28.UnrecordDead', WHERE WHAT IT READS IS OF BULK AT MOST 1048576: true; the input reads as it did. -/
def unrecordDeadUptoRow : OpenClaim := { program := "ytfoljakejdgfcaagreatdoor", sum := "45044a754fe8e83af63dc68c20fb374cfbc42d19fa0f01093b478bb44b27e671", func := "quilt/quiltlaw28.UnrecordDead", spec := "unrecordDead", inPlace := ["internal/bytealg.Compare", "internal/bytealg.IndexByteString", "internal/abi.NoEscape"], unfollowed := true, recurses := true, named := ["internal/strconv.uint64pow10", "math/bits.deBruijn32tab", "math/bits.deBruijn64tab"], plainKeys := false, apart := false, laid := [("math/bits.deBruijn32tab", laid_math_bits_deBruijn32tab), ("math/bits.deBruijn64tab", laid_math_bits_deBruijn64tab), ("internal/strconv.uint64pow10", laid_internal_strconv_uint64pow10)], narrowed := true }
def UnrecordDeadUptoSaid : Prop := unrecordDeadUptoRow.holds Tryz.pinned (OpenSpec.upto unrecordDeadSpec)

/-- 'quiltlaw28.UnrecordTwice', WHERE WHAT IT READS IS OF BULK AT MOST 1048576: true; the input reads as it did. -/
def unrecordTwiceUptoRow : OpenClaim := { program := "ytfoljakejdgfcaagreatdoor", sum := "45044a754fe8e83af63dc68c20fb374cfbc42d19fa0f01093b478bb44b27e671", func := "quilt/quiltlaw28.UnrecordTwice", spec := "unrecordTwice", inPlace := ["internal/bytealg.Compare", "internal/bytealg.IndexByteString", "internal/abi.NoEscape"], unfollowed := true, recurses := true, named := ["internal/strconv.uint64pow10", "math/bits.deBruijn32tab", "math/bits.deBruijn64tab"], plainKeys := false, apart := false, laid := [("math/bits.deBruijn32tab", laid_math_bits_deBruijn32tab), ("math/bits.deBruijn64tab", laid_math_bits_deBruijn64tab), ("internal/strconv.uint64pow10", laid_internal_strconv_uint64pow10)], narrowed := true }
def UnrecordTwiceUptoSaid : Prop := unrecordTwiceUptoRow.holds Tryz.pinned (OpenSpec.upto unrecordTwiceSpec)

/-- 'quiltlaw28.UnrecordRollback', WHERE WHAT IT READS IS OF BULK AT MOST 1048576: true; the input reads as it did. -/
def unrecordRollbackUptoRow : OpenClaim := { program := "ytfoljakejdgfcaagreatdoor", sum := "45044a754fe8e83af63dc68c20fb374cfbc42d19fa0f01093b478bb44b27e671", func := "quilt/quiltlaw28.UnrecordRollback", spec := "unrecordRollback", inPlace := ["internal/bytealg.Compare", "internal/bytealg.IndexByteString", "internal/abi.NoEscape", "slices.overlaps[quilt/api.Stored]"], unfollowed := true, recurses := true, named := ["internal/strconv.uint64pow10", "math/bits.deBruijn32tab", "math/bits.deBruijn64tab"], plainKeys := false, apart := false, laid := [("math/bits.deBruijn32tab", laid_math_bits_deBruijn32tab), ("math/bits.deBruijn64tab", laid_math_bits_deBruijn64tab), ("internal/strconv.uint64pow10", laid_internal_strconv_uint64pow10)], narrowed := true }
def UnrecordRollbackUptoSaid : Prop := unrecordRollbackUptoRow.holds Tryz.pinned (OpenSpec.upto unrecordRollbackSpec)

/-- 'quiltlaw28.UnrecordAmends', WHERE WHAT IT READS IS OF BULK AT MOST 1048576: true; the input reads as it did. -/
def unrecordAmendsUptoRow : OpenClaim := { program := "ytfoljakejdgfcaagreatdoor", sum := "45044a754fe8e83af63dc68c20fb374cfbc42d19fa0f01093b478bb44b27e671", func := "quilt/quiltlaw28.UnrecordAmends", spec := "unrecordAmends", inPlace := ["internal/bytealg.Compare", "internal/bytealg.IndexByteString", "internal/abi.NoEscape", "slices.overlaps[quilt/api.Stored]"], unfollowed := true, recurses := true, named := ["internal/strconv.uint64pow10", "math/bits.deBruijn32tab", "math/bits.deBruijn64tab"], plainKeys := false, apart := false, laid := [("math/bits.deBruijn32tab", laid_math_bits_deBruijn32tab), ("math/bits.deBruijn64tab", laid_math_bits_deBruijn64tab), ("internal/strconv.uint64pow10", laid_internal_strconv_uint64pow10)], narrowed := true }
def UnrecordAmendsUptoSaid : Prop := unrecordAmendsUptoRow.holds Tryz.pinned (OpenSpec.upto unrecordAmendsSpec)

end Rows
end Go.Proofs.YtfoljakejdgfcaaGreatDoor
