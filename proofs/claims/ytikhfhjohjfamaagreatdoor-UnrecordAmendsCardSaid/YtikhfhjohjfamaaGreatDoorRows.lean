/-
  NARROWER THAN 'FOR EVERY INPUT', by the rows' own cells (each row's printed sentence says how): NamespaceConflicts: laid · NamespacePaths: laid · NamespaceTree: laid · NamespaceEverything: laid · NamespaceInodes: laid · UnrecordRollback: laid · UnrecordAmends: laid · NamespaceClean: laid · NamespaceDeletes: laid · NamespaceContents: laid · NamespaceRenames: laid.
  DERIVED. THE GIVEN ROWS OF THIS SEAT. 11 by the template 'for every input the law returns true; each argument reads behind the call as it read before'; 0 by the template 'total and deterministic' (their statements: YtikhfhjohjfamaaGreatDoorTotals.lean).
  GIVEN WITH THE SEED: the statements are not yours to turn. If you find one false, say at which input.
  Laid BY PROGRAM, IN A SANDBOX (cutbox-rows.mjs): the forced cells as the released guide's own fill.sh prints them over the translation b734eaea0d5fc400… (all of the seat's roots in one cut). By AI agents, Wed Nov 11 2026. No macro, syntax, notation, axiom, sorry.
-/
import Derived.Test.YtikhfhjohjfamaaGreatDoorChecked
import GoSem.Claim
import GoSem.ClaimJoined
import GoSem.ClaimMapViews
import Derived.JoinedTies
import Derived.KernelRfl
namespace Go.Proofs.YtikhfhjohjfamaaGreatDoor
/- THE CELL 'sum', in the pinned program and in every row, IS THE sha256 OF THE DUMP (.gsa) THAT YtikhfhjohjfamaaGreatDoorProg.lean LOADS. Nothing in Lean hashes anything: it is a label: what it is worth is what the hold of that sum in a sandbox is worth. -/
noncomputable def Tryz.pinned : Pinned := { name := "ytikhfhjohjfamaagreatdoor", sum := "b734eaea0d5fc4001a98dfb8407587bb13051d6f65b8299b5a9fa0c07885f992", checked := Tryz.checked }
namespace Rows
def none {H : Type} : Left H := { results := [], args := [] }

/- WHAT THE LISTED PACKAGE-LEVEL VARIABLES READ AS WHEN THE CALL BEGINS. Each datum BY PROGRAM (the guide's laid-datum.mjs) off the statement by which the dump's own 'gosem.cut.vars' lays the variable. In a bare row this is a premise. The card (YtikhfhjohjfamaaGreatDoorCards.lean) ties it to the program's text. -/
def laid_math_bits_deBruijn32tab {H : Type} : DataW H := .agg [.lit (.int .u8 0), .lit (.int .u8 1), .lit (.int .u8 28), .lit (.int .u8 2), .lit (.int .u8 29), .lit (.int .u8 14), .lit (.int .u8 24), .lit (.int .u8 3), .lit (.int .u8 30), .lit (.int .u8 22), .lit (.int .u8 20), .lit (.int .u8 15), .lit (.int .u8 25), .lit (.int .u8 17), .lit (.int .u8 4), .lit (.int .u8 8), .lit (.int .u8 31), .lit (.int .u8 27), .lit (.int .u8 13), .lit (.int .u8 23), .lit (.int .u8 21), .lit (.int .u8 19), .lit (.int .u8 16), .lit (.int .u8 7), .lit (.int .u8 26), .lit (.int .u8 12), .lit (.int .u8 18), .lit (.int .u8 6), .lit (.int .u8 11), .lit (.int .u8 5), .lit (.int .u8 10), .lit (.int .u8 9)]
def laid_math_bits_deBruijn64tab {H : Type} : DataW H := .agg [.lit (.int .u8 0), .lit (.int .u8 1), .lit (.int .u8 56), .lit (.int .u8 2), .lit (.int .u8 57), .lit (.int .u8 49), .lit (.int .u8 28), .lit (.int .u8 3), .lit (.int .u8 61), .lit (.int .u8 58), .lit (.int .u8 42), .lit (.int .u8 50), .lit (.int .u8 38), .lit (.int .u8 29), .lit (.int .u8 17), .lit (.int .u8 4), .lit (.int .u8 62), .lit (.int .u8 47), .lit (.int .u8 59), .lit (.int .u8 36), .lit (.int .u8 45), .lit (.int .u8 43), .lit (.int .u8 51), .lit (.int .u8 22), .lit (.int .u8 53), .lit (.int .u8 39), .lit (.int .u8 33), .lit (.int .u8 30), .lit (.int .u8 24), .lit (.int .u8 18), .lit (.int .u8 12), .lit (.int .u8 5), .lit (.int .u8 63), .lit (.int .u8 55), .lit (.int .u8 48), .lit (.int .u8 27), .lit (.int .u8 60), .lit (.int .u8 41), .lit (.int .u8 37), .lit (.int .u8 16), .lit (.int .u8 46), .lit (.int .u8 35), .lit (.int .u8 44), .lit (.int .u8 21), .lit (.int .u8 52), .lit (.int .u8 32), .lit (.int .u8 23), .lit (.int .u8 11), .lit (.int .u8 54), .lit (.int .u8 26), .lit (.int .u8 40), .lit (.int .u8 15), .lit (.int .u8 34), .lit (.int .u8 20), .lit (.int .u8 31), .lit (.int .u8 10), .lit (.int .u8 25), .lit (.int .u8 14), .lit (.int .u8 19), .lit (.int .u8 9), .lit (.int .u8 13), .lit (.int .u8 8), .lit (.int .u8 7), .lit (.int .u8 6)]
def laid_internal_strconv_uint64pow10 {H : Type} : DataW H := .agg [.lit (.int .u64 1), .lit (.int .u64 10), .lit (.int .u64 100), .lit (.int .u64 1000), .lit (.int .u64 10000), .lit (.int .u64 100000), .lit (.int .u64 1000000), .lit (.int .u64 10000000), .lit (.int .u64 100000000), .lit (.int .u64 1000000000), .lit (.int .u64 10000000000), .lit (.int .u64 100000000000), .lit (.int .u64 1000000000000), .lit (.int .u64 10000000000000), .lit (.int .u64 100000000000000), .lit (.int .u64 1000000000000000), .lit (.int .u64 10000000000000000), .lit (.int .u64 100000000000000000), .lit (.int .u64 1000000000000000000), .lit (.int .u64 10000000000000000000)]

/-- 'quiltlaw19.NamespaceConflicts': WHATEVER THE INPUT: true; the input reads as it did. -/
def namespaceConflictsSpec : ChangeSpec := { name := "namespaceConflicts", fn := fun _ => fun
  | [d] => { results := [.lit (.bool true)], args := [d] }
  | _ => none }
def namespaceConflictsRow : OpenClaim := { program := "ytikhfhjohjfamaagreatdoor", sum := "b734eaea0d5fc4001a98dfb8407587bb13051d6f65b8299b5a9fa0c07885f992", func := "quilt/quiltlaw19.NamespaceConflicts", spec := "namespaceConflicts", inPlace := ["internal/bytealg.Compare", "internal/bytealg.IndexByteString", "internal/abi.NoEscape"], unfollowed := true, recurses := true, named := ["internal/strconv.uint64pow10", "math/bits.deBruijn32tab", "math/bits.deBruijn64tab"], plainKeys := false, apart := false, laid := [("math/bits.deBruijn32tab", laid_math_bits_deBruijn32tab), ("math/bits.deBruijn64tab", laid_math_bits_deBruijn64tab), ("internal/strconv.uint64pow10", laid_internal_strconv_uint64pow10)] }
def NamespaceConflictsSaid : Prop := namespaceConflictsRow.holds Tryz.pinned (OpenSpec.ofChange namespaceConflictsSpec)

/-- ITS FALSE NEIGHBOUR: 'it returns false'. Refute it at one input. -/
def namespaceConflictsWrong : ChangeSpec := { name := "namespaceConflicts", fn := fun _ => fun
  | [d] => { results := [.lit (.bool false)], args := [d] }
  | _ => none }
def NamespaceConflictsWrongFalsely : Prop := namespaceConflictsRow.holds Tryz.pinned (OpenSpec.ofChange namespaceConflictsWrong)

/-- 'quiltlaw19.NamespacePaths': WHATEVER THE INPUT: true; the input reads as it did. -/
def namespacePathsSpec : ChangeSpec := { name := "namespacePaths", fn := fun _ => fun
  | [d1, d2] => { results := [.lit (.bool true)], args := [d1, d2] }
  | _ => none }
def namespacePathsRow : OpenClaim := { program := "ytikhfhjohjfamaagreatdoor", sum := "b734eaea0d5fc4001a98dfb8407587bb13051d6f65b8299b5a9fa0c07885f992", func := "quilt/quiltlaw19.NamespacePaths", spec := "namespacePaths", inPlace := ["internal/bytealg.Compare", "internal/bytealg.IndexByteString", "internal/abi.NoEscape"], unfollowed := true, recurses := true, named := ["internal/strconv.uint64pow10", "math/bits.deBruijn32tab", "math/bits.deBruijn64tab"], plainKeys := false, apart := false, laid := [("math/bits.deBruijn32tab", laid_math_bits_deBruijn32tab), ("math/bits.deBruijn64tab", laid_math_bits_deBruijn64tab), ("internal/strconv.uint64pow10", laid_internal_strconv_uint64pow10)] }
def NamespacePathsSaid : Prop := namespacePathsRow.holds Tryz.pinned (OpenSpec.ofChange namespacePathsSpec)

/-- ITS FALSE NEIGHBOUR: 'it returns false'. Refute it at one input. -/
def namespacePathsWrong : ChangeSpec := { name := "namespacePaths", fn := fun _ => fun
  | [d1, d2] => { results := [.lit (.bool false)], args := [d1, d2] }
  | _ => none }
def NamespacePathsWrongFalsely : Prop := namespacePathsRow.holds Tryz.pinned (OpenSpec.ofChange namespacePathsWrong)

/-- 'quiltlaw19.NamespaceTree': WHATEVER THE INPUT: true; the input reads as it did. -/
def namespaceTreeSpec : ChangeSpec := { name := "namespaceTree", fn := fun _ => fun
  | [d] => { results := [.lit (.bool true)], args := [d] }
  | _ => none }
def namespaceTreeRow : OpenClaim := { program := "ytikhfhjohjfamaagreatdoor", sum := "b734eaea0d5fc4001a98dfb8407587bb13051d6f65b8299b5a9fa0c07885f992", func := "quilt/quiltlaw19.NamespaceTree", spec := "namespaceTree", inPlace := ["internal/bytealg.Compare", "internal/bytealg.IndexByteString", "internal/abi.NoEscape"], unfollowed := true, recurses := true, named := ["internal/strconv.uint64pow10", "math/bits.deBruijn32tab", "math/bits.deBruijn64tab"], plainKeys := false, apart := false, laid := [("math/bits.deBruijn32tab", laid_math_bits_deBruijn32tab), ("math/bits.deBruijn64tab", laid_math_bits_deBruijn64tab), ("internal/strconv.uint64pow10", laid_internal_strconv_uint64pow10)] }
def NamespaceTreeSaid : Prop := namespaceTreeRow.holds Tryz.pinned (OpenSpec.ofChange namespaceTreeSpec)

/-- ITS FALSE NEIGHBOUR: 'it returns false'. Refute it at one input. -/
def namespaceTreeWrong : ChangeSpec := { name := "namespaceTree", fn := fun _ => fun
  | [d] => { results := [.lit (.bool false)], args := [d] }
  | _ => none }
def NamespaceTreeWrongFalsely : Prop := namespaceTreeRow.holds Tryz.pinned (OpenSpec.ofChange namespaceTreeWrong)

/-- 'quiltlaw19.NamespaceEverything': WHATEVER THE INPUT: true; the input reads as it did. -/
def namespaceEverythingSpec : ChangeSpec := { name := "namespaceEverything", fn := fun _ => fun
  | [d] => { results := [.lit (.bool true)], args := [d] }
  | _ => none }
def namespaceEverythingRow : OpenClaim := { program := "ytikhfhjohjfamaagreatdoor", sum := "b734eaea0d5fc4001a98dfb8407587bb13051d6f65b8299b5a9fa0c07885f992", func := "quilt/quiltlaw19.NamespaceEverything", spec := "namespaceEverything", inPlace := ["internal/bytealg.Compare", "internal/bytealg.IndexByteString", "internal/abi.NoEscape"], unfollowed := true, recurses := true, named := ["internal/strconv.uint64pow10", "math/bits.deBruijn32tab", "math/bits.deBruijn64tab"], plainKeys := false, apart := false, laid := [("math/bits.deBruijn32tab", laid_math_bits_deBruijn32tab), ("math/bits.deBruijn64tab", laid_math_bits_deBruijn64tab), ("internal/strconv.uint64pow10", laid_internal_strconv_uint64pow10)] }
def NamespaceEverythingSaid : Prop := namespaceEverythingRow.holds Tryz.pinned (OpenSpec.ofChange namespaceEverythingSpec)

/-- ITS FALSE NEIGHBOUR: 'it returns false'. Refute it at one input. -/
def namespaceEverythingWrong : ChangeSpec := { name := "namespaceEverything", fn := fun _ => fun
  | [d] => { results := [.lit (.bool false)], args := [d] }
  | _ => none }
def NamespaceEverythingWrongFalsely : Prop := namespaceEverythingRow.holds Tryz.pinned (OpenSpec.ofChange namespaceEverythingWrong)

/-- 'quiltlaw19.NamespaceInodes': WHATEVER THE INPUT: true; the input reads as it did. -/
def namespaceInodesSpec : ChangeSpec := { name := "namespaceInodes", fn := fun _ => fun
  | [d1, d2] => { results := [.lit (.bool true)], args := [d1, d2] }
  | _ => none }
def namespaceInodesRow : OpenClaim := { program := "ytikhfhjohjfamaagreatdoor", sum := "b734eaea0d5fc4001a98dfb8407587bb13051d6f65b8299b5a9fa0c07885f992", func := "quilt/quiltlaw19.NamespaceInodes", spec := "namespaceInodes", inPlace := ["internal/bytealg.Compare", "internal/bytealg.IndexByteString", "internal/abi.NoEscape"], unfollowed := true, recurses := true, named := ["internal/strconv.uint64pow10", "math/bits.deBruijn32tab", "math/bits.deBruijn64tab"], plainKeys := false, apart := false, laid := [("math/bits.deBruijn32tab", laid_math_bits_deBruijn32tab), ("math/bits.deBruijn64tab", laid_math_bits_deBruijn64tab), ("internal/strconv.uint64pow10", laid_internal_strconv_uint64pow10)] }
def NamespaceInodesSaid : Prop := namespaceInodesRow.holds Tryz.pinned (OpenSpec.ofChange namespaceInodesSpec)

/-- ITS FALSE NEIGHBOUR: 'it returns false'. Refute it at one input. -/
def namespaceInodesWrong : ChangeSpec := { name := "namespaceInodes", fn := fun _ => fun
  | [d1, d2] => { results := [.lit (.bool false)], args := [d1, d2] }
  | _ => none }
def NamespaceInodesWrongFalsely : Prop := namespaceInodesRow.holds Tryz.pinned (OpenSpec.ofChange namespaceInodesWrong)

/-- 'quiltlaw28.UnrecordRollback': WHATEVER THE INPUT: true; the input reads as it did. -/
def unrecordRollbackSpec : ChangeSpec := { name := "unrecordRollback", fn := fun _ => fun
  | [d1, d2, d3] => { results := [.lit (.bool true)], args := [d1, d2, d3] }
  | _ => none }
def unrecordRollbackRow : OpenClaim := { program := "ytikhfhjohjfamaagreatdoor", sum := "b734eaea0d5fc4001a98dfb8407587bb13051d6f65b8299b5a9fa0c07885f992", func := "quilt/quiltlaw28.UnrecordRollback", spec := "unrecordRollback", inPlace := ["internal/bytealg.Compare", "internal/bytealg.IndexByteString", "internal/abi.NoEscape", "slices.overlaps[quilt/api.Stored]"], unfollowed := true, recurses := true, named := ["internal/strconv.uint64pow10", "math/bits.deBruijn32tab", "math/bits.deBruijn64tab"], plainKeys := false, apart := false, laid := [("math/bits.deBruijn32tab", laid_math_bits_deBruijn32tab), ("math/bits.deBruijn64tab", laid_math_bits_deBruijn64tab), ("internal/strconv.uint64pow10", laid_internal_strconv_uint64pow10)] }
def UnrecordRollbackSaid : Prop := unrecordRollbackRow.holds Tryz.pinned (OpenSpec.ofChange unrecordRollbackSpec)

/-- ITS FALSE NEIGHBOUR: 'it returns false'. Refute it at one input. -/
def unrecordRollbackWrong : ChangeSpec := { name := "unrecordRollback", fn := fun _ => fun
  | [d1, d2, d3] => { results := [.lit (.bool false)], args := [d1, d2, d3] }
  | _ => none }
def UnrecordRollbackWrongFalsely : Prop := unrecordRollbackRow.holds Tryz.pinned (OpenSpec.ofChange unrecordRollbackWrong)

/-- 'quiltlaw28.UnrecordAmends': WHATEVER THE INPUT: true; the input reads as it did. -/
def unrecordAmendsSpec : ChangeSpec := { name := "unrecordAmends", fn := fun _ => fun
  | [d1, d2, d3] => { results := [.lit (.bool true)], args := [d1, d2, d3] }
  | _ => none }
def unrecordAmendsRow : OpenClaim := { program := "ytikhfhjohjfamaagreatdoor", sum := "b734eaea0d5fc4001a98dfb8407587bb13051d6f65b8299b5a9fa0c07885f992", func := "quilt/quiltlaw28.UnrecordAmends", spec := "unrecordAmends", inPlace := ["internal/bytealg.Compare", "internal/bytealg.IndexByteString", "internal/abi.NoEscape", "slices.overlaps[quilt/api.Stored]"], unfollowed := true, recurses := true, named := ["internal/strconv.uint64pow10", "math/bits.deBruijn32tab", "math/bits.deBruijn64tab"], plainKeys := false, apart := false, laid := [("math/bits.deBruijn32tab", laid_math_bits_deBruijn32tab), ("math/bits.deBruijn64tab", laid_math_bits_deBruijn64tab), ("internal/strconv.uint64pow10", laid_internal_strconv_uint64pow10)] }
def UnrecordAmendsSaid : Prop := unrecordAmendsRow.holds Tryz.pinned (OpenSpec.ofChange unrecordAmendsSpec)

/-- ITS FALSE NEIGHBOUR: 'it returns false'. Refute it at one input. -/
def unrecordAmendsWrong : ChangeSpec := { name := "unrecordAmends", fn := fun _ => fun
  | [d1, d2, d3] => { results := [.lit (.bool false)], args := [d1, d2, d3] }
  | _ => none }
def UnrecordAmendsWrongFalsely : Prop := unrecordAmendsRow.holds Tryz.pinned (OpenSpec.ofChange unrecordAmendsWrong)

/-- 'quiltlaw19.NamespaceClean': WHATEVER THE INPUT: true; the input reads as it did. -/
def namespaceCleanSpec : ChangeSpec := { name := "namespaceClean", fn := fun _ => fun
  | [d] => { results := [.lit (.bool true)], args := [d] }
  | _ => none }
def namespaceCleanRow : OpenClaim := { program := "ytikhfhjohjfamaagreatdoor", sum := "b734eaea0d5fc4001a98dfb8407587bb13051d6f65b8299b5a9fa0c07885f992", func := "quilt/quiltlaw19.NamespaceClean", spec := "namespaceClean", inPlace := ["internal/bytealg.Compare", "internal/bytealg.IndexByteString", "internal/abi.NoEscape", "internal/bytealg.IndexString"], unfollowed := true, recurses := true, named := ["internal/strconv.uint64pow10", "math/bits.deBruijn32tab", "math/bits.deBruijn64tab", "internal/bytealg.MaxLen"], plainKeys := false, apart := false, laid := [("math/bits.deBruijn32tab", laid_math_bits_deBruijn32tab), ("math/bits.deBruijn64tab", laid_math_bits_deBruijn64tab), ("internal/strconv.uint64pow10", laid_internal_strconv_uint64pow10)] }
def NamespaceCleanSaid : Prop := namespaceCleanRow.holds Tryz.pinned (OpenSpec.ofChange namespaceCleanSpec)

/-- ITS FALSE NEIGHBOUR: 'it returns false'. Refute it at one input. -/
def namespaceCleanWrong : ChangeSpec := { name := "namespaceClean", fn := fun _ => fun
  | [d] => { results := [.lit (.bool false)], args := [d] }
  | _ => none }
def NamespaceCleanWrongFalsely : Prop := namespaceCleanRow.holds Tryz.pinned (OpenSpec.ofChange namespaceCleanWrong)

/-- 'quiltlaw19.NamespaceDeletes': WHATEVER THE INPUT: true; the input reads as it did. -/
def namespaceDeletesSpec : ChangeSpec := { name := "namespaceDeletes", fn := fun _ => fun
  | [d1, d2] => { results := [.lit (.bool true)], args := [d1, d2] }
  | _ => none }
def namespaceDeletesRow : OpenClaim := { program := "ytikhfhjohjfamaagreatdoor", sum := "b734eaea0d5fc4001a98dfb8407587bb13051d6f65b8299b5a9fa0c07885f992", func := "quilt/quiltlaw19.NamespaceDeletes", spec := "namespaceDeletes", inPlace := ["internal/bytealg.Compare", "internal/bytealg.IndexByteString", "internal/abi.NoEscape", "slices.overlaps[quilt/api.Stored]"], unfollowed := true, recurses := true, named := ["internal/strconv.uint64pow10", "math/bits.deBruijn32tab", "math/bits.deBruijn64tab"], plainKeys := false, apart := false, laid := [("math/bits.deBruijn32tab", laid_math_bits_deBruijn32tab), ("math/bits.deBruijn64tab", laid_math_bits_deBruijn64tab), ("internal/strconv.uint64pow10", laid_internal_strconv_uint64pow10)] }
def NamespaceDeletesSaid : Prop := namespaceDeletesRow.holds Tryz.pinned (OpenSpec.ofChange namespaceDeletesSpec)

/-- ITS FALSE NEIGHBOUR: 'it returns false'. Refute it at one input. -/
def namespaceDeletesWrong : ChangeSpec := { name := "namespaceDeletes", fn := fun _ => fun
  | [d1, d2] => { results := [.lit (.bool false)], args := [d1, d2] }
  | _ => none }
def NamespaceDeletesWrongFalsely : Prop := namespaceDeletesRow.holds Tryz.pinned (OpenSpec.ofChange namespaceDeletesWrong)

/-- 'quiltlaw19.NamespaceContents': WHATEVER THE INPUT: true; the input reads as it did. -/
def namespaceContentsSpec : ChangeSpec := { name := "namespaceContents", fn := fun _ => fun
  | [d1, d2] => { results := [.lit (.bool true)], args := [d1, d2] }
  | _ => none }
def namespaceContentsRow : OpenClaim := { program := "ytikhfhjohjfamaagreatdoor", sum := "b734eaea0d5fc4001a98dfb8407587bb13051d6f65b8299b5a9fa0c07885f992", func := "quilt/quiltlaw19.NamespaceContents", spec := "namespaceContents", inPlace := ["internal/bytealg.Compare", "internal/bytealg.IndexByteString", "internal/abi.NoEscape", "slices.overlaps[quilt/api.Stored]"], unfollowed := true, recurses := true, named := ["internal/strconv.uint64pow10", "math/bits.deBruijn32tab", "math/bits.deBruijn64tab"], plainKeys := false, apart := false, laid := [("math/bits.deBruijn32tab", laid_math_bits_deBruijn32tab), ("math/bits.deBruijn64tab", laid_math_bits_deBruijn64tab), ("internal/strconv.uint64pow10", laid_internal_strconv_uint64pow10)] }
def NamespaceContentsSaid : Prop := namespaceContentsRow.holds Tryz.pinned (OpenSpec.ofChange namespaceContentsSpec)

/-- ITS FALSE NEIGHBOUR: 'it returns false'. Refute it at one input. -/
def namespaceContentsWrong : ChangeSpec := { name := "namespaceContents", fn := fun _ => fun
  | [d1, d2] => { results := [.lit (.bool false)], args := [d1, d2] }
  | _ => none }
def NamespaceContentsWrongFalsely : Prop := namespaceContentsRow.holds Tryz.pinned (OpenSpec.ofChange namespaceContentsWrong)

/-- 'quiltlaw19.NamespaceRenames': WHATEVER THE INPUT: true; the input reads as it did. -/
def namespaceRenamesSpec : ChangeSpec := { name := "namespaceRenames", fn := fun _ => fun
  | [d1, d2] => { results := [.lit (.bool true)], args := [d1, d2] }
  | _ => none }
def namespaceRenamesRow : OpenClaim := { program := "ytikhfhjohjfamaagreatdoor", sum := "b734eaea0d5fc4001a98dfb8407587bb13051d6f65b8299b5a9fa0c07885f992", func := "quilt/quiltlaw19.NamespaceRenames", spec := "namespaceRenames", inPlace := ["internal/bytealg.Compare", "internal/bytealg.IndexByteString", "internal/abi.NoEscape", "slices.overlaps[quilt/api.Stored]"], unfollowed := true, recurses := true, named := ["internal/strconv.uint64pow10", "math/bits.deBruijn32tab", "math/bits.deBruijn64tab"], plainKeys := false, apart := false, laid := [("math/bits.deBruijn32tab", laid_math_bits_deBruijn32tab), ("math/bits.deBruijn64tab", laid_math_bits_deBruijn64tab), ("internal/strconv.uint64pow10", laid_internal_strconv_uint64pow10)] }
def NamespaceRenamesSaid : Prop := namespaceRenamesRow.holds Tryz.pinned (OpenSpec.ofChange namespaceRenamesSpec)

/-- ITS FALSE NEIGHBOUR: 'it returns false'. Refute it at one input. -/
def namespaceRenamesWrong : ChangeSpec := { name := "namespaceRenames", fn := fun _ => fun
  | [d1, d2] => { results := [.lit (.bool false)], args := [d1, d2] }
  | _ => none }
def NamespaceRenamesWrongFalsely : Prop := namespaceRenamesRow.holds Tryz.pinned (OpenSpec.ofChange namespaceRenamesWrong)

/- THE SECOND FORM. 'bulk': how many values and letters a reading holds, each counted each time it is reached (what is shared counts as often as it is met; a slice's spare places count too). A statement '..UptoSaid' is the law's where the arguments, and the package variables that the reading takes, are together of bulk at most 1048576: NARROWER than '..Said'. Prove '..Said' where nothing that the law and all that it calls make is longer than what came in: it says more and counts as full. Else prove '..UptoSaid'. A law counts once. -/
mutual
def uptoBulk {H : Type} : DataW H → Nat
  | .lit (.string bytes) => bytes.length + 1
  | .lit _ => 1
  | .nil => 1
  | .ptr d => uptoBulk d + 1
  | .slice elems spare => uptoBulkAll elems + uptoBulkAll spare + 1
  | .agg parts => uptoBulkAll parts + 1
  | .iface _ d => uptoBulk d + 1
  | .map entries => uptoBulkEntries entries + 1
  | .held _ => 1
def uptoBulkAll {H : Type} : List (DataW H) → Nat
  | [] => 0
  | d :: r => uptoBulk d + uptoBulkAll r
def uptoBulkEntries {H : Type} : List (Lit × DataW H) → Nat
  | [] => 0
  | x :: r => uptoBulkEntry x + uptoBulkEntries r
def uptoBulkEntry {H : Type} : Lit × DataW H → Nat
  | (.string bytes, d) => bytes.length + uptoBulk d + 1
  | (_, d) => uptoBulk d + 1
 end
def uptoSmall : (H : Type) → List (DataW H) → Bool := fun _ ds => decide (uptoBulkAll ds ≤ 1048576)
def OpenSpec.upto (s : _root_.Go.ChangeSpec) : _root_.Go.OpenSpec := { _root_.Go.OpenSpec.ofChange s with cond := some uptoSmall }

/-- 'quiltlaw19.NamespaceConflicts', WHERE WHAT IT READS IS OF BULK AT MOST 1048576: true; the input reads as it did. -/
def namespaceConflictsUptoRow : OpenClaim := { program := "ytikhfhjohjfamaagreatdoor", sum := "b734eaea0d5fc4001a98dfb8407587bb13051d6f65b8299b5a9fa0c07885f992", func := "quilt/quiltlaw19.NamespaceConflicts", spec := "namespaceConflicts", inPlace := ["internal/bytealg.Compare", "internal/bytealg.IndexByteString", "internal/abi.NoEscape"], unfollowed := true, recurses := true, named := ["internal/strconv.uint64pow10", "math/bits.deBruijn32tab", "math/bits.deBruijn64tab"], plainKeys := false, apart := false, laid := [("math/bits.deBruijn32tab", laid_math_bits_deBruijn32tab), ("math/bits.deBruijn64tab", laid_math_bits_deBruijn64tab), ("internal/strconv.uint64pow10", laid_internal_strconv_uint64pow10)], narrowed := true }
def NamespaceConflictsUptoSaid : Prop := namespaceConflictsUptoRow.holds Tryz.pinned (OpenSpec.upto namespaceConflictsSpec)

/-- 'quiltlaw19.NamespacePaths', WHERE WHAT IT READS IS OF BULK AT MOST 1048576: true; the input reads as it did. -/
def namespacePathsUptoRow : OpenClaim := { program := "ytikhfhjohjfamaagreatdoor", sum := "b734eaea0d5fc4001a98dfb8407587bb13051d6f65b8299b5a9fa0c07885f992", func := "quilt/quiltlaw19.NamespacePaths", spec := "namespacePaths", inPlace := ["internal/bytealg.Compare", "internal/bytealg.IndexByteString", "internal/abi.NoEscape"], unfollowed := true, recurses := true, named := ["internal/strconv.uint64pow10", "math/bits.deBruijn32tab", "math/bits.deBruijn64tab"], plainKeys := false, apart := false, laid := [("math/bits.deBruijn32tab", laid_math_bits_deBruijn32tab), ("math/bits.deBruijn64tab", laid_math_bits_deBruijn64tab), ("internal/strconv.uint64pow10", laid_internal_strconv_uint64pow10)], narrowed := true }
def NamespacePathsUptoSaid : Prop := namespacePathsUptoRow.holds Tryz.pinned (OpenSpec.upto namespacePathsSpec)

/-- 'quiltlaw19.NamespaceTree', WHERE WHAT IT READS IS OF BULK AT MOST 1048576: true; the input reads as it did. -/
def namespaceTreeUptoRow : OpenClaim := { program := "ytikhfhjohjfamaagreatdoor", sum := "b734eaea0d5fc4001a98dfb8407587bb13051d6f65b8299b5a9fa0c07885f992", func := "quilt/quiltlaw19.NamespaceTree", spec := "namespaceTree", inPlace := ["internal/bytealg.Compare", "internal/bytealg.IndexByteString", "internal/abi.NoEscape"], unfollowed := true, recurses := true, named := ["internal/strconv.uint64pow10", "math/bits.deBruijn32tab", "math/bits.deBruijn64tab"], plainKeys := false, apart := false, laid := [("math/bits.deBruijn32tab", laid_math_bits_deBruijn32tab), ("math/bits.deBruijn64tab", laid_math_bits_deBruijn64tab), ("internal/strconv.uint64pow10", laid_internal_strconv_uint64pow10)], narrowed := true }
def NamespaceTreeUptoSaid : Prop := namespaceTreeUptoRow.holds Tryz.pinned (OpenSpec.upto namespaceTreeSpec)

/-- 'quiltlaw19.NamespaceEverything', WHERE WHAT IT READS IS OF BULK AT MOST 1048576: true; the input reads as it did. -/
def namespaceEverythingUptoRow : OpenClaim := { program := "ytikhfhjohjfamaagreatdoor", sum := "b734eaea0d5fc4001a98dfb8407587bb13051d6f65b8299b5a9fa0c07885f992", func := "quilt/quiltlaw19.NamespaceEverything", spec := "namespaceEverything", inPlace := ["internal/bytealg.Compare", "internal/bytealg.IndexByteString", "internal/abi.NoEscape"], unfollowed := true, recurses := true, named := ["internal/strconv.uint64pow10", "math/bits.deBruijn32tab", "math/bits.deBruijn64tab"], plainKeys := false, apart := false, laid := [("math/bits.deBruijn32tab", laid_math_bits_deBruijn32tab), ("math/bits.deBruijn64tab", laid_math_bits_deBruijn64tab), ("internal/strconv.uint64pow10", laid_internal_strconv_uint64pow10)], narrowed := true }
def NamespaceEverythingUptoSaid : Prop := namespaceEverythingUptoRow.holds Tryz.pinned (OpenSpec.upto namespaceEverythingSpec)

/-- 'quiltlaw19.NamespaceInodes', WHERE WHAT IT READS IS OF BULK AT MOST 1048576: true; the input reads as it did. -/
def namespaceInodesUptoRow : OpenClaim := { program := "ytikhfhjohjfamaagreatdoor", sum := "b734eaea0d5fc4001a98dfb8407587bb13051d6f65b8299b5a9fa0c07885f992", func := "quilt/quiltlaw19.NamespaceInodes", spec := "namespaceInodes", inPlace := ["internal/bytealg.Compare", "internal/bytealg.IndexByteString", "internal/abi.NoEscape"], unfollowed := true, recurses := true, named := ["internal/strconv.uint64pow10", "math/bits.deBruijn32tab", "math/bits.deBruijn64tab"], plainKeys := false, apart := false, laid := [("math/bits.deBruijn32tab", laid_math_bits_deBruijn32tab), ("math/bits.deBruijn64tab", laid_math_bits_deBruijn64tab), ("internal/strconv.uint64pow10", laid_internal_strconv_uint64pow10)], narrowed := true }
def NamespaceInodesUptoSaid : Prop := namespaceInodesUptoRow.holds Tryz.pinned (OpenSpec.upto namespaceInodesSpec)

/-- 'quiltlaw28.UnrecordRollback', WHERE WHAT IT READS IS OF BULK AT MOST 1048576: true; the input reads as it did. -/
def unrecordRollbackUptoRow : OpenClaim := { program := "ytikhfhjohjfamaagreatdoor", sum := "b734eaea0d5fc4001a98dfb8407587bb13051d6f65b8299b5a9fa0c07885f992", func := "quilt/quiltlaw28.UnrecordRollback", spec := "unrecordRollback", inPlace := ["internal/bytealg.Compare", "internal/bytealg.IndexByteString", "internal/abi.NoEscape", "slices.overlaps[quilt/api.Stored]"], unfollowed := true, recurses := true, named := ["internal/strconv.uint64pow10", "math/bits.deBruijn32tab", "math/bits.deBruijn64tab"], plainKeys := false, apart := false, laid := [("math/bits.deBruijn32tab", laid_math_bits_deBruijn32tab), ("math/bits.deBruijn64tab", laid_math_bits_deBruijn64tab), ("internal/strconv.uint64pow10", laid_internal_strconv_uint64pow10)], narrowed := true }
def UnrecordRollbackUptoSaid : Prop := unrecordRollbackUptoRow.holds Tryz.pinned (OpenSpec.upto unrecordRollbackSpec)

/-- 'quiltlaw28.UnrecordAmends', WHERE WHAT IT READS IS OF BULK AT MOST 1048576: true; the input reads as it did. -/
def unrecordAmendsUptoRow : OpenClaim := { program := "ytikhfhjohjfamaagreatdoor", sum := "b734eaea0d5fc4001a98dfb8407587bb13051d6f65b8299b5a9fa0c07885f992", func := "quilt/quiltlaw28.UnrecordAmends", spec := "unrecordAmends", inPlace := ["internal/bytealg.Compare", "internal/bytealg.IndexByteString", "internal/abi.NoEscape", "slices.overlaps[quilt/api.Stored]"], unfollowed := true, recurses := true, named := ["internal/strconv.uint64pow10", "math/bits.deBruijn32tab", "math/bits.deBruijn64tab"], plainKeys := false, apart := false, laid := [("math/bits.deBruijn32tab", laid_math_bits_deBruijn32tab), ("math/bits.deBruijn64tab", laid_math_bits_deBruijn64tab), ("internal/strconv.uint64pow10", laid_internal_strconv_uint64pow10)], narrowed := true }
def UnrecordAmendsUptoSaid : Prop := unrecordAmendsUptoRow.holds Tryz.pinned (OpenSpec.upto unrecordAmendsSpec)

/-- 'quiltlaw19.NamespaceClean', WHERE WHAT IT READS IS OF BULK AT MOST 1048576: true; the input reads as it did. -/
def namespaceCleanUptoRow : OpenClaim := { program := "ytikhfhjohjfamaagreatdoor", sum := "b734eaea0d5fc4001a98dfb8407587bb13051d6f65b8299b5a9fa0c07885f992", func := "quilt/quiltlaw19.NamespaceClean", spec := "namespaceClean", inPlace := ["internal/bytealg.Compare", "internal/bytealg.IndexByteString", "internal/abi.NoEscape", "internal/bytealg.IndexString"], unfollowed := true, recurses := true, named := ["internal/strconv.uint64pow10", "math/bits.deBruijn32tab", "math/bits.deBruijn64tab", "internal/bytealg.MaxLen"], plainKeys := false, apart := false, laid := [("math/bits.deBruijn32tab", laid_math_bits_deBruijn32tab), ("math/bits.deBruijn64tab", laid_math_bits_deBruijn64tab), ("internal/strconv.uint64pow10", laid_internal_strconv_uint64pow10)], narrowed := true }
def NamespaceCleanUptoSaid : Prop := namespaceCleanUptoRow.holds Tryz.pinned (OpenSpec.upto namespaceCleanSpec)

/-- 'quiltlaw19.NamespaceDeletes', WHERE WHAT IT READS IS OF BULK AT MOST 1048576: true; the input reads as it did. -/
def namespaceDeletesUptoRow : OpenClaim := { program := "ytikhfhjohjfamaagreatdoor", sum := "b734eaea0d5fc4001a98dfb8407587bb13051d6f65b8299b5a9fa0c07885f992", func := "quilt/quiltlaw19.NamespaceDeletes", spec := "namespaceDeletes", inPlace := ["internal/bytealg.Compare", "internal/bytealg.IndexByteString", "internal/abi.NoEscape", "slices.overlaps[quilt/api.Stored]"], unfollowed := true, recurses := true, named := ["internal/strconv.uint64pow10", "math/bits.deBruijn32tab", "math/bits.deBruijn64tab"], plainKeys := false, apart := false, laid := [("math/bits.deBruijn32tab", laid_math_bits_deBruijn32tab), ("math/bits.deBruijn64tab", laid_math_bits_deBruijn64tab), ("internal/strconv.uint64pow10", laid_internal_strconv_uint64pow10)], narrowed := true }
def NamespaceDeletesUptoSaid : Prop := namespaceDeletesUptoRow.holds Tryz.pinned (OpenSpec.upto namespaceDeletesSpec)

/-- 'quiltlaw19.NamespaceContents', WHERE WHAT IT READS IS OF BULK AT MOST 1048576: true; the input reads as it did. -/
def namespaceContentsUptoRow : OpenClaim := { program := "ytikhfhjohjfamaagreatdoor", sum := "b734eaea0d5fc4001a98dfb8407587bb13051d6f65b8299b5a9fa0c07885f992", func := "quilt/quiltlaw19.NamespaceContents", spec := "namespaceContents", inPlace := ["internal/bytealg.Compare", "internal/bytealg.IndexByteString", "internal/abi.NoEscape", "slices.overlaps[quilt/api.Stored]"], unfollowed := true, recurses := true, named := ["internal/strconv.uint64pow10", "math/bits.deBruijn32tab", "math/bits.deBruijn64tab"], plainKeys := false, apart := false, laid := [("math/bits.deBruijn32tab", laid_math_bits_deBruijn32tab), ("math/bits.deBruijn64tab", laid_math_bits_deBruijn64tab), ("internal/strconv.uint64pow10", laid_internal_strconv_uint64pow10)], narrowed := true }
def NamespaceContentsUptoSaid : Prop := namespaceContentsUptoRow.holds Tryz.pinned (OpenSpec.upto namespaceContentsSpec)

/-- 'quiltlaw19.NamespaceRenames', WHERE WHAT IT READS IS OF BULK AT MOST 1048576: true; the input reads as it did. -/
def namespaceRenamesUptoRow : OpenClaim := { program := "ytikhfhjohjfamaagreatdoor", sum := "b734eaea0d5fc4001a98dfb8407587bb13051d6f65b8299b5a9fa0c07885f992", func := "quilt/quiltlaw19.NamespaceRenames", spec := "namespaceRenames", inPlace := ["internal/bytealg.Compare", "internal/bytealg.IndexByteString", "internal/abi.NoEscape", "slices.overlaps[quilt/api.Stored]"], unfollowed := true, recurses := true, named := ["internal/strconv.uint64pow10", "math/bits.deBruijn32tab", "math/bits.deBruijn64tab"], plainKeys := false, apart := false, laid := [("math/bits.deBruijn32tab", laid_math_bits_deBruijn32tab), ("math/bits.deBruijn64tab", laid_math_bits_deBruijn64tab), ("internal/strconv.uint64pow10", laid_internal_strconv_uint64pow10)], narrowed := true }
def NamespaceRenamesUptoSaid : Prop := namespaceRenamesUptoRow.holds Tryz.pinned (OpenSpec.upto namespaceRenamesSpec)

end Rows
end Go.Proofs.YtikhfhjohjfamaaGreatDoor
