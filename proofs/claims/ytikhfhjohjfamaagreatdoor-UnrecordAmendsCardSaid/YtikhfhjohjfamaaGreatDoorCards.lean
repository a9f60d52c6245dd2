/-
  DERIVED. GIVEN WITH THE SEED: THE CARDS: each row of YtikhfhjohjfamaaGreatDoorRows.lean that lists a variable, with what it lists TIED to the program's text (the seventh form; the later family's looks); each row that meets fmt, with fmt's text TOLD by the authors' own Lean function (tested against real Go, not proved from fmt's source: count such statements apart). THE CARD IS WHAT COUNTS. Prove the row's statement (the work); the ties are given (YtikhfhjohjfamaaGreatDoorTie.lean); close each card by the builder's one call (the guide's Derived/Test/ToyasCard.lean, 'card_holds'). Laid BY PROGRAM, IN A SANDBOX (cutbox-door.mjs). By AI agents, Wed Nov 11 2026. No macro, syntax, notation, axiom, sorry.
-/
import Derived.Test.YtikhfhjohjfamaaGreatDoorRows
import GoSem.ClaimSeven
namespace Go.Proofs.YtikhfhjohjfamaaGreatDoor
namespace Rows

/-- THE TIED CARD OF 'quiltlaw19.NamespaceConflicts'. -/
def namespaceConflictsCard : Claim7 := { stood := { row := namespaceConflictsRow, standIns := [], harness := (true, "0518e74b21ba44120aed5dbc4e26d684ff1be1c6b3f8173c5a3eb62f4a19e366"), looks := false }, kinds := [], alts := [], laidByText := true, laidKinds := [.data, .data, .data], laidTests := true, laidLooks := .later }
def NamespaceConflictsCardSaid : Prop := Claim7.holds Tryz.pinned (.plain (OpenSpec.ofChange namespaceConflictsSpec)) namespaceConflictsCard

/-- THE TIED CARD OF 'quiltlaw19.NamespacePaths'. -/
def namespacePathsCard : Claim7 := { stood := { row := namespacePathsRow, standIns := [], harness := (true, "0518e74b21ba44120aed5dbc4e26d684ff1be1c6b3f8173c5a3eb62f4a19e366"), looks := false }, kinds := [], alts := [], laidByText := true, laidKinds := [.data, .data, .data], laidTests := true, laidLooks := .later }
def NamespacePathsCardSaid : Prop := Claim7.holds Tryz.pinned (.plain (OpenSpec.ofChange namespacePathsSpec)) namespacePathsCard

/-- THE TIED CARD OF 'quiltlaw19.NamespaceTree'. -/
def namespaceTreeCard : Claim7 := { stood := { row := namespaceTreeRow, standIns := [], harness := (true, "0518e74b21ba44120aed5dbc4e26d684ff1be1c6b3f8173c5a3eb62f4a19e366"), looks := false }, kinds := [], alts := [], laidByText := true, laidKinds := [.data, .data, .data], laidTests := true, laidLooks := .later }
def NamespaceTreeCardSaid : Prop := Claim7.holds Tryz.pinned (.plain (OpenSpec.ofChange namespaceTreeSpec)) namespaceTreeCard

/-- THE TIED CARD OF 'quiltlaw19.NamespaceEverything'. -/
def namespaceEverythingCard : Claim7 := { stood := { row := namespaceEverythingRow, standIns := [], harness := (true, "0518e74b21ba44120aed5dbc4e26d684ff1be1c6b3f8173c5a3eb62f4a19e366"), looks := false }, kinds := [], alts := [], laidByText := true, laidKinds := [.data, .data, .data], laidTests := true, laidLooks := .later }
def NamespaceEverythingCardSaid : Prop := Claim7.holds Tryz.pinned (.plain (OpenSpec.ofChange namespaceEverythingSpec)) namespaceEverythingCard

/-- THE TIED CARD OF 'quiltlaw19.NamespaceInodes'. -/
def namespaceInodesCard : Claim7 := { stood := { row := namespaceInodesRow, standIns := [], harness := (true, "0518e74b21ba44120aed5dbc4e26d684ff1be1c6b3f8173c5a3eb62f4a19e366"), looks := false }, kinds := [], alts := [], laidByText := true, laidKinds := [.data, .data, .data], laidTests := true, laidLooks := .later }
def NamespaceInodesCardSaid : Prop := Claim7.holds Tryz.pinned (.plain (OpenSpec.ofChange namespaceInodesSpec)) namespaceInodesCard

/-- THE TIED CARD OF 'quiltlaw28.UnrecordRollback'. -/
def unrecordRollbackCard : Claim7 := { stood := { row := unrecordRollbackRow, standIns := [], harness := (true, "0518e74b21ba44120aed5dbc4e26d684ff1be1c6b3f8173c5a3eb62f4a19e366"), looks := false }, kinds := [], alts := [], laidByText := true, laidKinds := [.data, .data, .data], laidTests := true, laidLooks := .later }
def UnrecordRollbackCardSaid : Prop := Claim7.holds Tryz.pinned (.plain (OpenSpec.ofChange unrecordRollbackSpec)) unrecordRollbackCard

/-- THE TIED CARD OF 'quiltlaw28.UnrecordAmends'. -/
def unrecordAmendsCard : Claim7 := { stood := { row := unrecordAmendsRow, standIns := [], harness := (true, "0518e74b21ba44120aed5dbc4e26d684ff1be1c6b3f8173c5a3eb62f4a19e366"), looks := false }, kinds := [], alts := [], laidByText := true, laidKinds := [.data, .data, .data], laidTests := true, laidLooks := .later }
def UnrecordAmendsCardSaid : Prop := Claim7.holds Tryz.pinned (.plain (OpenSpec.ofChange unrecordAmendsSpec)) unrecordAmendsCard

/-- THE TIED CARD OF 'quiltlaw19.NamespaceClean'. -/
def namespaceCleanCard : Claim7 := { stood := { row := namespaceCleanRow, standIns := [], harness := (true, "0518e74b21ba44120aed5dbc4e26d684ff1be1c6b3f8173c5a3eb62f4a19e366"), looks := false }, kinds := [], alts := [], laidByText := true, laidKinds := [.data, .data, .data], laidTests := true, laidLooks := .later }
def NamespaceCleanCardSaid : Prop := Claim7.holds Tryz.pinned (.plain (OpenSpec.ofChange namespaceCleanSpec)) namespaceCleanCard

/-- THE TIED CARD OF 'quiltlaw19.NamespaceDeletes'. -/
def namespaceDeletesCard : Claim7 := { stood := { row := namespaceDeletesRow, standIns := [], harness := (true, "0518e74b21ba44120aed5dbc4e26d684ff1be1c6b3f8173c5a3eb62f4a19e366"), looks := false }, kinds := [], alts := [], laidByText := true, laidKinds := [.data, .data, .data], laidTests := true, laidLooks := .later }
def NamespaceDeletesCardSaid : Prop := Claim7.holds Tryz.pinned (.plain (OpenSpec.ofChange namespaceDeletesSpec)) namespaceDeletesCard

/-- THE TIED CARD OF 'quiltlaw19.NamespaceContents'. -/
def namespaceContentsCard : Claim7 := { stood := { row := namespaceContentsRow, standIns := [], harness := (true, "0518e74b21ba44120aed5dbc4e26d684ff1be1c6b3f8173c5a3eb62f4a19e366"), looks := false }, kinds := [], alts := [], laidByText := true, laidKinds := [.data, .data, .data], laidTests := true, laidLooks := .later }
def NamespaceContentsCardSaid : Prop := Claim7.holds Tryz.pinned (.plain (OpenSpec.ofChange namespaceContentsSpec)) namespaceContentsCard

/-- THE TIED CARD OF 'quiltlaw19.NamespaceRenames'. -/
def namespaceRenamesCard : Claim7 := { stood := { row := namespaceRenamesRow, standIns := [], harness := (true, "0518e74b21ba44120aed5dbc4e26d684ff1be1c6b3f8173c5a3eb62f4a19e366"), looks := false }, kinds := [], alts := [], laidByText := true, laidKinds := [.data, .data, .data], laidTests := true, laidLooks := .later }
def NamespaceRenamesCardSaid : Prop := Claim7.holds Tryz.pinned (.plain (OpenSpec.ofChange namespaceRenamesSpec)) namespaceRenamesCard

/-- THE SECOND FORM's CARD OF 'quiltlaw19.NamespaceConflicts'. -/
def namespaceConflictsUptoCard : Claim7 := { stood := { row := namespaceConflictsUptoRow, standIns := [], harness := (true, "0518e74b21ba44120aed5dbc4e26d684ff1be1c6b3f8173c5a3eb62f4a19e366"), looks := false }, kinds := [], alts := [], laidByText := true, laidKinds := [.data, .data, .data], laidTests := true, laidLooks := .later }
def NamespaceConflictsUptoCardSaid : Prop := Claim7.holds Tryz.pinned (.plain (OpenSpec.upto namespaceConflictsSpec)) namespaceConflictsUptoCard

/-- THE SECOND FORM's CARD OF 'quiltlaw19.NamespacePaths'. -/
def namespacePathsUptoCard : Claim7 := { stood := { row := namespacePathsUptoRow, standIns := [], harness := (true, "0518e74b21ba44120aed5dbc4e26d684ff1be1c6b3f8173c5a3eb62f4a19e366"), looks := false }, kinds := [], alts := [], laidByText := true, laidKinds := [.data, .data, .data], laidTests := true, laidLooks := .later }
def NamespacePathsUptoCardSaid : Prop := Claim7.holds Tryz.pinned (.plain (OpenSpec.upto namespacePathsSpec)) namespacePathsUptoCard

/-- THE SECOND FORM's CARD OF 'quiltlaw19.NamespaceTree'. -/
def namespaceTreeUptoCard : Claim7 := { stood := { row := namespaceTreeUptoRow, standIns := [], harness := (true, "0518e74b21ba44120aed5dbc4e26d684ff1be1c6b3f8173c5a3eb62f4a19e366"), looks := false }, kinds := [], alts := [], laidByText := true, laidKinds := [.data, .data, .data], laidTests := true, laidLooks := .later }
def NamespaceTreeUptoCardSaid : Prop := Claim7.holds Tryz.pinned (.plain (OpenSpec.upto namespaceTreeSpec)) namespaceTreeUptoCard

/-- THE SECOND FORM's CARD OF 'quiltlaw19.NamespaceEverything'. -/
def namespaceEverythingUptoCard : Claim7 := { stood := { row := namespaceEverythingUptoRow, standIns := [], harness := (true, "0518e74b21ba44120aed5dbc4e26d684ff1be1c6b3f8173c5a3eb62f4a19e366"), looks := false }, kinds := [], alts := [], laidByText := true, laidKinds := [.data, .data, .data], laidTests := true, laidLooks := .later }
def NamespaceEverythingUptoCardSaid : Prop := Claim7.holds Tryz.pinned (.plain (OpenSpec.upto namespaceEverythingSpec)) namespaceEverythingUptoCard

/-- THE SECOND FORM's CARD OF 'quiltlaw19.NamespaceInodes'. -/
def namespaceInodesUptoCard : Claim7 := { stood := { row := namespaceInodesUptoRow, standIns := [], harness := (true, "0518e74b21ba44120aed5dbc4e26d684ff1be1c6b3f8173c5a3eb62f4a19e366"), looks := false }, kinds := [], alts := [], laidByText := true, laidKinds := [.data, .data, .data], laidTests := true, laidLooks := .later }
def NamespaceInodesUptoCardSaid : Prop := Claim7.holds Tryz.pinned (.plain (OpenSpec.upto namespaceInodesSpec)) namespaceInodesUptoCard

/-- THE SECOND FORM's CARD OF 'quiltlaw28.UnrecordRollback'. -/
def unrecordRollbackUptoCard : Claim7 := { stood := { row := unrecordRollbackUptoRow, standIns := [], harness := (true, "0518e74b21ba44120aed5dbc4e26d684ff1be1c6b3f8173c5a3eb62f4a19e366"), looks := false }, kinds := [], alts := [], laidByText := true, laidKinds := [.data, .data, .data], laidTests := true, laidLooks := .later }
def UnrecordRollbackUptoCardSaid : Prop := Claim7.holds Tryz.pinned (.plain (OpenSpec.upto unrecordRollbackSpec)) unrecordRollbackUptoCard

/-- THE SECOND FORM's CARD OF 'quiltlaw28.UnrecordAmends'. -/
def unrecordAmendsUptoCard : Claim7 := { stood := { row := unrecordAmendsUptoRow, standIns := [], harness := (true, "0518e74b21ba44120aed5dbc4e26d684ff1be1c6b3f8173c5a3eb62f4a19e366"), looks := false }, kinds := [], alts := [], laidByText := true, laidKinds := [.data, .data, .data], laidTests := true, laidLooks := .later }
def UnrecordAmendsUptoCardSaid : Prop := Claim7.holds Tryz.pinned (.plain (OpenSpec.upto unrecordAmendsSpec)) unrecordAmendsUptoCard

/-- THE SECOND FORM's CARD OF 'quiltlaw19.NamespaceClean'. -/
def namespaceCleanUptoCard : Claim7 := { stood := { row := namespaceCleanUptoRow, standIns := [], harness := (true, "0518e74b21ba44120aed5dbc4e26d684ff1be1c6b3f8173c5a3eb62f4a19e366"), looks := false }, kinds := [], alts := [], laidByText := true, laidKinds := [.data, .data, .data], laidTests := true, laidLooks := .later }
def NamespaceCleanUptoCardSaid : Prop := Claim7.holds Tryz.pinned (.plain (OpenSpec.upto namespaceCleanSpec)) namespaceCleanUptoCard

/-- THE SECOND FORM's CARD OF 'quiltlaw19.NamespaceDeletes'. -/
def namespaceDeletesUptoCard : Claim7 := { stood := { row := namespaceDeletesUptoRow, standIns := [], harness := (true, "0518e74b21ba44120aed5dbc4e26d684ff1be1c6b3f8173c5a3eb62f4a19e366"), looks := false }, kinds := [], alts := [], laidByText := true, laidKinds := [.data, .data, .data], laidTests := true, laidLooks := .later }
def NamespaceDeletesUptoCardSaid : Prop := Claim7.holds Tryz.pinned (.plain (OpenSpec.upto namespaceDeletesSpec)) namespaceDeletesUptoCard

/-- THE SECOND FORM's CARD OF 'quiltlaw19.NamespaceContents'. -/
def namespaceContentsUptoCard : Claim7 := { stood := { row := namespaceContentsUptoRow, standIns := [], harness := (true, "0518e74b21ba44120aed5dbc4e26d684ff1be1c6b3f8173c5a3eb62f4a19e366"), looks := false }, kinds := [], alts := [], laidByText := true, laidKinds := [.data, .data, .data], laidTests := true, laidLooks := .later }
def NamespaceContentsUptoCardSaid : Prop := Claim7.holds Tryz.pinned (.plain (OpenSpec.upto namespaceContentsSpec)) namespaceContentsUptoCard

/-- THE SECOND FORM's CARD OF 'quiltlaw19.NamespaceRenames'. -/
def namespaceRenamesUptoCard : Claim7 := { stood := { row := namespaceRenamesUptoRow, standIns := [], harness := (true, "0518e74b21ba44120aed5dbc4e26d684ff1be1c6b3f8173c5a3eb62f4a19e366"), looks := false }, kinds := [], alts := [], laidByText := true, laidKinds := [.data, .data, .data], laidTests := true, laidLooks := .later }
def NamespaceRenamesUptoCardSaid : Prop := Claim7.holds Tryz.pinned (.plain (OpenSpec.upto namespaceRenamesSpec)) namespaceRenamesUptoCard
end Rows
end Go.Proofs.YtikhfhjohjfamaaGreatDoor
