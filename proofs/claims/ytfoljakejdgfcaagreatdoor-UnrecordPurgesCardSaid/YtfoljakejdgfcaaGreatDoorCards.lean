/-
  DERIVED. GIVEN WITH THE SEED: THE CARDS: each row of YtfoljakejdgfcaaGreatDoorRows.lean that lists a variable, with what it lists TIED to the program's text (the seventh form; the later family's looks); each row that meets fmt, with fmt's text TOLD by the authors' own Lean function (tested against real Go, not proved from fmt's source: count such statements apart). THE CARD IS WHAT COUNTS. Prove the row's statement (the work); the ties are given (YtfoljakejdgfcaaGreatDoorTie.lean); close each card by the builder's one call (the guide's Derived/Test/ToyasCard.lean, 'card_holds'). Laid BY PROGRAM, IN A SANDBOX (cutbox-door.mjs). By AI agents, Wed Nov 11 2026. No macro, syntax, notation, axiom, sorry.
-/
import Derived.Test.YtfoljakejdgfcaaGreatDoorRows
import GoSem.ClaimSeven
namespace Go.Proofs.YtfoljakejdgfcaaGreatDoor
namespace Rows

/-- THE TIED CARD OF 'quiltlaw28.UnrecordRemove'. -/
def unrecordRemoveCard : Claim7 := { stood := { row := unrecordRemoveRow, standIns := [], harness := (true, "84f2d3b849e899dcee3b7b05f991f23db2b4fbd56d00367ce2c12940e2ceb0df"), looks := false }, kinds := [], alts := [], laidByText := true, laidKinds := [.data, .data, .data], laidTests := true, laidLooks := .later }
def UnrecordRemoveCardSaid : Prop := Claim7.holds Tryz.pinned (.plain (OpenSpec.ofChange unrecordRemoveSpec)) unrecordRemoveCard

/-- THE TIED CARD OF 'quiltlaw28.UnrecordNever'. -/
def unrecordNeverCard : Claim7 := { stood := { row := unrecordNeverRow, standIns := [], harness := (true, "84f2d3b849e899dcee3b7b05f991f23db2b4fbd56d00367ce2c12940e2ceb0df"), looks := false }, kinds := [], alts := [], laidByText := true, laidKinds := [.data, .data, .data], laidTests := true, laidLooks := .later }
def UnrecordNeverCardSaid : Prop := Claim7.holds Tryz.pinned (.plain (OpenSpec.ofChange unrecordNeverSpec)) unrecordNeverCard

/-- THE TIED CARD OF 'quiltlaw28.UnrecordPurges'. -/
def unrecordPurgesCard : Claim7 := { stood := { row := unrecordPurgesRow, standIns := [], harness := (true, "84f2d3b849e899dcee3b7b05f991f23db2b4fbd56d00367ce2c12940e2ceb0df"), looks := false }, kinds := [], alts := [], laidByText := true, laidKinds := [.data, .data, .data], laidTests := true, laidLooks := .later }
def UnrecordPurgesCardSaid : Prop := Claim7.holds Tryz.pinned (.plain (OpenSpec.ofChange unrecordPurgesSpec)) unrecordPurgesCard

/-- THE TIED CARD OF 'quiltlaw28.UnrecordDead'. -/
def unrecordDeadCard : Claim7 := { stood := { row := unrecordDeadRow, standIns := [], harness := (true, "84f2d3b849e899dcee3b7b05f991f23db2b4fbd56d00367ce2c12940e2ceb0df"), looks := false }, kinds := [], alts := [], laidByText := true, laidKinds := [.data, .data, .data], laidTests := true, laidLooks := .later }
def UnrecordDeadCardSaid : Prop := Claim7.holds Tryz.pinned (.plain (OpenSpec.ofChange unrecordDeadSpec)) unrecordDeadCard

/-- THE TIED CARD OF 'quiltlaw28.UnrecordTwice'. -/
def unrecordTwiceCard : Claim7 := { stood := { row := unrecordTwiceRow, standIns := [], harness := (true, "84f2d3b849e899dcee3b7b05f991f23db2b4fbd56d00367ce2c12940e2ceb0df"), looks := false }, kinds := [], alts := [], laidByText := true, laidKinds := [.data, .data, .data], laidTests := true, laidLooks := .later }
def UnrecordTwiceCardSaid : Prop := Claim7.holds Tryz.pinned (.plain (OpenSpec.ofChange unrecordTwiceSpec)) unrecordTwiceCard

/-- THE TIED CARD OF 'quiltlaw28.UnrecordRollback'. -/
def unrecordRollbackCard : Claim7 := { stood := { row := unrecordRollbackRow, standIns := [], harness := (true, "84f2d3b849e899dcee3b7b05f991f23db2b4fbd56d00367ce2c12940e2ceb0df"), looks := false }, kinds := [], alts := [], laidByText := true, laidKinds := [.data, .data, .data], laidTests := true, laidLooks := .later }
def UnrecordRollbackCardSaid : Prop := Claim7.holds Tryz.pinned (.plain (OpenSpec.ofChange unrecordRollbackSpec)) unrecordRollbackCard

/-- THE TIED CARD OF 'quiltlaw28.UnrecordAmends'. -/
def unrecordAmendsCard : Claim7 := { stood := { row := unrecordAmendsRow, standIns := [], harness := (true, "84f2d3b849e899dcee3b7b05f991f23db2b4fbd56d00367ce2c12940e2ceb0df"), looks := false }, kinds := [], alts := [], laidByText := true, laidKinds := [.data, .data, .data], laidTests := true, laidLooks := .later }
def UnrecordAmendsCardSaid : Prop := Claim7.holds Tryz.pinned (.plain (OpenSpec.ofChange unrecordAmendsSpec)) unrecordAmendsCard

/-- THE SECOND FORM's CARD OF 'quiltlaw28.UnrecordRemove'. -/
def unrecordRemoveUptoCard : Claim7 := { stood := { row := unrecordRemoveUptoRow, standIns := [], harness := (true, "84f2d3b849e899dcee3b7b05f991f23db2b4fbd56d00367ce2c12940e2ceb0df"), looks := false }, kinds := [], alts := [], laidByText := true, laidKinds := [.data, .data, .data], laidTests := true, laidLooks := .later }
def UnrecordRemoveUptoCardSaid : Prop := Claim7.holds Tryz.pinned (.plain (OpenSpec.upto unrecordRemoveSpec)) unrecordRemoveUptoCard

/-- THE SECOND FORM's CARD OF 'quiltlaw28.UnrecordNever'. -/
def unrecordNeverUptoCard : Claim7 := { stood := { row := unrecordNeverUptoRow, standIns := [], harness := (true, "84f2d3b849e899dcee3b7b05f991f23db2b4fbd56d00367ce2c12940e2ceb0df"), looks := false }, kinds := [], alts := [], laidByText := true, laidKinds := [.data, .data, .data], laidTests := true, laidLooks := .later }
def UnrecordNeverUptoCardSaid : Prop := Claim7.holds Tryz.pinned (.plain (OpenSpec.upto unrecordNeverSpec)) unrecordNeverUptoCard

/-- THE SECOND FORM's CARD OF 'quiltlaw28.UnrecordPurges'. -/
def unrecordPurgesUptoCard : Claim7 := { stood := { row := unrecordPurgesUptoRow, standIns := [], harness := (true, "84f2d3b849e899dcee3b7b05f991f23db2b4fbd56d00367ce2c12940e2ceb0df"), looks := false }, kinds := [], alts := [], laidByText := true, laidKinds := [.data, .data, .data], laidTests := true, laidLooks := .later }
def UnrecordPurgesUptoCardSaid : Prop := Claim7.holds Tryz.pinned (.plain (OpenSpec.upto unrecordPurgesSpec)) unrecordPurgesUptoCard

/-- THE SECOND FORM's CARD OF 'quiltlaw28.UnrecordDead'. -/
def unrecordDeadUptoCard : Claim7 := { stood := { row := unrecordDeadUptoRow, standIns := [], harness := (true, "84f2d3b849e899dcee3b7b05f991f23db2b4fbd56d00367ce2c12940e2ceb0df"), looks := false }, kinds := [], alts := [], laidByText := true, laidKinds := [.data, .data, .data], laidTests := true, laidLooks := .later }
def UnrecordDeadUptoCardSaid : Prop := Claim7.holds Tryz.pinned (.plain (OpenSpec.upto unrecordDeadSpec)) unrecordDeadUptoCard

/-- THE SECOND FORM's CARD OF 'quiltlaw28.UnrecordTwice'. -/
def unrecordTwiceUptoCard : Claim7 := { stood := { row := unrecordTwiceUptoRow, standIns := [], harness := (true, "84f2d3b849e899dcee3b7b05f991f23db2b4fbd56d00367ce2c12940e2ceb0df"), looks := false }, kinds := [], alts := [], laidByText := true, laidKinds := [.data, .data, .data], laidTests := true, laidLooks := .later }
def UnrecordTwiceUptoCardSaid : Prop := Claim7.holds Tryz.pinned (.plain (OpenSpec.upto unrecordTwiceSpec)) unrecordTwiceUptoCard

/-- THE SECOND FORM's CARD OF 'quiltlaw28.UnrecordRollback'. -/
def unrecordRollbackUptoCard : Claim7 := { stood := { row := unrecordRollbackUptoRow, standIns := [], harness := (true, "84f2d3b849e899dcee3b7b05f991f23db2b4fbd56d00367ce2c12940e2ceb0df"), looks := false }, kinds := [], alts := [], laidByText := true, laidKinds := [.data, .data, .data], laidTests := true, laidLooks := .later }
def UnrecordRollbackUptoCardSaid : Prop := Claim7.holds Tryz.pinned (.plain (OpenSpec.upto unrecordRollbackSpec)) unrecordRollbackUptoCard

/-- THE SECOND FORM's CARD OF 'quiltlaw28.UnrecordAmends'. -/
def unrecordAmendsUptoCard : Claim7 := { stood := { row := unrecordAmendsUptoRow, standIns := [], harness := (true, "84f2d3b849e899dcee3b7b05f991f23db2b4fbd56d00367ce2c12940e2ceb0df"), looks := false }, kinds := [], alts := [], laidByText := true, laidKinds := [.data, .data, .data], laidTests := true, laidLooks := .later }
def UnrecordAmendsUptoCardSaid : Prop := Claim7.holds Tryz.pinned (.plain (OpenSpec.upto unrecordAmendsSpec)) unrecordAmendsUptoCard
end Rows
end Go.Proofs.YtfoljakejdgfcaaGreatDoor
