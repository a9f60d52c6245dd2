/-
  DERIVED. GIVEN WITH THE SEED: THE CARDS: each row of YtellfinifjmloaaGreatDoorRows.lean that lists a variable, with what it lists TIED to the program's text (the seventh form; the later family's looks); each row that meets fmt, with fmt's text TOLD by the authors' own Lean function (tested against real Go, not proved from fmt's source: count such statements apart). THE CARD IS WHAT COUNTS. Prove the row's statement (the work); the ties are given (YtellfinifjmloaaGreatDoorTie.lean); close each card by the builder's one call (the guide's Derived/Test/ToyasCard.lean, 'card_holds'). Laid BY PROGRAM, IN A SANDBOX (cutbox-door.mjs). By AI agents, Wed Nov 11 2026. No macro, syntax, notation, axiom, sorry.
-/
import Derived.Test.YtellfinifjmloaaGreatDoorRows
import GoSem.ClaimSeven
namespace Go.Proofs.YtellfinifjmloaaGreatDoor
namespace Rows

/-- THE TIED CARD OF 'quiltlaw18.LivingOne'. -/
def livingOneCard : Claim7 := { stood := { row := livingOneRow, standIns := [], harness := (true, "1a60c73f69fde8b55ac3212be2a1307b13d009d7012ca39d6b39bf872618b6cc"), looks := false }, kinds := [], alts := [], laidByText := true, laidKinds := [.data, .data, .data], laidTests := true, laidLooks := .later }
def LivingOneCardSaid : Prop := Claim7.holds Tryz.pinned (.plain (OpenSpec.ofChange livingOneSpec)) livingOneCard

/-- THE TIED CARD OF 'quiltlaw28.UnrecordRollback'. -/
def unrecordRollbackCard : Claim7 := { stood := { row := unrecordRollbackRow, standIns := [], harness := (true, "1a60c73f69fde8b55ac3212be2a1307b13d009d7012ca39d6b39bf872618b6cc"), looks := false }, kinds := [], alts := [], laidByText := true, laidKinds := [.data, .data, .data], laidTests := true, laidLooks := .later }
def UnrecordRollbackCardSaid : Prop := Claim7.holds Tryz.pinned (.plain (OpenSpec.ofChange unrecordRollbackSpec)) unrecordRollbackCard

/-- THE TIED CARD OF 'quiltlaw28.UnrecordAmends'. -/
def unrecordAmendsCard : Claim7 := { stood := { row := unrecordAmendsRow, standIns := [], harness := (true, "1a60c73f69fde8b55ac3212be2a1307b13d009d7012ca39d6b39bf872618b6cc"), looks := false }, kinds := [], alts := [], laidByText := true, laidKinds := [.data, .data, .data], laidTests := true, laidLooks := .later }
def UnrecordAmendsCardSaid : Prop := Claim7.holds Tryz.pinned (.plain (OpenSpec.ofChange unrecordAmendsSpec)) unrecordAmendsCard

/-- THE TIED CARD OF 'quiltlaw18.LivingLocal'. -/
def livingLocalCard : Claim7 := { stood := { row := livingLocalRow, standIns := [], harness := (true, "1a60c73f69fde8b55ac3212be2a1307b13d009d7012ca39d6b39bf872618b6cc"), looks := false }, kinds := [], alts := [], laidByText := true, laidKinds := [.data, .data, .data], laidTests := true, laidLooks := .later }
def LivingLocalCardSaid : Prop := Claim7.holds Tryz.pinned (.plain (OpenSpec.ofChange livingLocalSpec)) livingLocalCard

/-- THE TIED CARD OF 'quiltlaw18.LivingFinal'. -/
def livingFinalCard : Claim7 := { stood := { row := livingFinalRow, standIns := [], harness := (true, "1a60c73f69fde8b55ac3212be2a1307b13d009d7012ca39d6b39bf872618b6cc"), looks := false }, kinds := [], alts := [], laidByText := true, laidKinds := [.data, .data, .data], laidTests := true, laidLooks := .later }
def LivingFinalCardSaid : Prop := Claim7.holds Tryz.pinned (.plain (OpenSpec.ofChange livingFinalSpec)) livingFinalCard

/-- THE TIED CARD OF 'quiltlaw18.LivingRestored'. -/
def livingRestoredCard : Claim7 := { stood := { row := livingRestoredRow, standIns := [], harness := (true, "1a60c73f69fde8b55ac3212be2a1307b13d009d7012ca39d6b39bf872618b6cc"), looks := false }, kinds := [], alts := [], laidByText := true, laidKinds := [.data, .data, .data], laidTests := true, laidLooks := .later }
def LivingRestoredCardSaid : Prop := Claim7.holds Tryz.pinned (.plain (OpenSpec.ofChange livingRestoredSpec)) livingRestoredCard

/-- THE TIED CARD OF 'quiltlaw18.LivingRetracted'. -/
def livingRetractedCard : Claim7 := { stood := { row := livingRetractedRow, standIns := [], harness := (true, "1a60c73f69fde8b55ac3212be2a1307b13d009d7012ca39d6b39bf872618b6cc"), looks := false }, kinds := [], alts := [], laidByText := true, laidKinds := [.data, .data, .data], laidTests := true, laidLooks := .later }
def LivingRetractedCardSaid : Prop := Claim7.holds Tryz.pinned (.plain (OpenSpec.ofChange livingRetractedSpec)) livingRetractedCard

/-- THE TIED CARD OF 'quiltlaw18.LivingAtoms'. -/
def livingAtomsCard : Claim7 := { stood := { row := livingAtomsRow, standIns := [], harness := (true, "1a60c73f69fde8b55ac3212be2a1307b13d009d7012ca39d6b39bf872618b6cc"), looks := false }, kinds := [], alts := [], laidByText := true, laidKinds := [.data, .data, .data], laidTests := true, laidLooks := .later }
def LivingAtomsCardSaid : Prop := Claim7.holds Tryz.pinned (.plain (OpenSpec.ofChange livingAtomsSpec)) livingAtomsCard

/-- THE SECOND FORM's CARD OF 'quiltlaw18.LivingOne'. -/
def livingOneUptoCard : Claim7 := { stood := { row := livingOneUptoRow, standIns := [], harness := (true, "1a60c73f69fde8b55ac3212be2a1307b13d009d7012ca39d6b39bf872618b6cc"), looks := false }, kinds := [], alts := [], laidByText := true, laidKinds := [.data, .data, .data], laidTests := true, laidLooks := .later }
def LivingOneUptoCardSaid : Prop := Claim7.holds Tryz.pinned (.plain (OpenSpec.upto livingOneSpec)) livingOneUptoCard

/-- THE SECOND FORM's CARD OF 'quiltlaw28.UnrecordRollback'. -/
def unrecordRollbackUptoCard : Claim7 := { stood := { row := unrecordRollbackUptoRow, standIns := [], harness := (true, "1a60c73f69fde8b55ac3212be2a1307b13d009d7012ca39d6b39bf872618b6cc"), looks := false }, kinds := [], alts := [], laidByText := true, laidKinds := [.data, .data, .data], laidTests := true, laidLooks := .later }
def UnrecordRollbackUptoCardSaid : Prop := Claim7.holds Tryz.pinned (.plain (OpenSpec.upto unrecordRollbackSpec)) unrecordRollbackUptoCard

/-- THE SECOND FORM's CARD OF 'quiltlaw28.UnrecordAmends'. -/
def unrecordAmendsUptoCard : Claim7 := { stood := { row := unrecordAmendsUptoRow, standIns := [], harness := (true, "1a60c73f69fde8b55ac3212be2a1307b13d009d7012ca39d6b39bf872618b6cc"), looks := false }, kinds := [], alts := [], laidByText := true, laidKinds := [.data, .data, .data], laidTests := true, laidLooks := .later }
def UnrecordAmendsUptoCardSaid : Prop := Claim7.holds Tryz.pinned (.plain (OpenSpec.upto unrecordAmendsSpec)) unrecordAmendsUptoCard

/-- THE SECOND FORM's CARD OF 'quiltlaw18.LivingLocal'. -/
def livingLocalUptoCard : Claim7 := { stood := { row := livingLocalUptoRow, standIns := [], harness := (true, "1a60c73f69fde8b55ac3212be2a1307b13d009d7012ca39d6b39bf872618b6cc"), looks := false }, kinds := [], alts := [], laidByText := true, laidKinds := [.data, .data, .data], laidTests := true, laidLooks := .later }
def LivingLocalUptoCardSaid : Prop := Claim7.holds Tryz.pinned (.plain (OpenSpec.upto livingLocalSpec)) livingLocalUptoCard

/-- THE SECOND FORM's CARD OF 'quiltlaw18.LivingFinal'. -/
def livingFinalUptoCard : Claim7 := { stood := { row := livingFinalUptoRow, standIns := [], harness := (true, "1a60c73f69fde8b55ac3212be2a1307b13d009d7012ca39d6b39bf872618b6cc"), looks := false }, kinds := [], alts := [], laidByText := true, laidKinds := [.data, .data, .data], laidTests := true, laidLooks := .later }
def LivingFinalUptoCardSaid : Prop := Claim7.holds Tryz.pinned (.plain (OpenSpec.upto livingFinalSpec)) livingFinalUptoCard

/-- THE SECOND FORM's CARD OF 'quiltlaw18.LivingRestored'. -/
def livingRestoredUptoCard : Claim7 := { stood := { row := livingRestoredUptoRow, standIns := [], harness := (true, "1a60c73f69fde8b55ac3212be2a1307b13d009d7012ca39d6b39bf872618b6cc"), looks := false }, kinds := [], alts := [], laidByText := true, laidKinds := [.data, .data, .data], laidTests := true, laidLooks := .later }
def LivingRestoredUptoCardSaid : Prop := Claim7.holds Tryz.pinned (.plain (OpenSpec.upto livingRestoredSpec)) livingRestoredUptoCard

/-- THE SECOND FORM's CARD OF 'quiltlaw18.LivingRetracted'. -/
def livingRetractedUptoCard : Claim7 := { stood := { row := livingRetractedUptoRow, standIns := [], harness := (true, "1a60c73f69fde8b55ac3212be2a1307b13d009d7012ca39d6b39bf872618b6cc"), looks := false }, kinds := [], alts := [], laidByText := true, laidKinds := [.data, .data, .data], laidTests := true, laidLooks := .later }
def LivingRetractedUptoCardSaid : Prop := Claim7.holds Tryz.pinned (.plain (OpenSpec.upto livingRetractedSpec)) livingRetractedUptoCard

/-- THE SECOND FORM's CARD OF 'quiltlaw18.LivingAtoms'. -/
def livingAtomsUptoCard : Claim7 := { stood := { row := livingAtomsUptoRow, standIns := [], harness := (true, "1a60c73f69fde8b55ac3212be2a1307b13d009d7012ca39d6b39bf872618b6cc"), looks := false }, kinds := [], alts := [], laidByText := true, laidKinds := [.data, .data, .data], laidTests := true, laidLooks := .later }
def LivingAtomsUptoCardSaid : Prop := Claim7.holds Tryz.pinned (.plain (OpenSpec.upto livingAtomsSpec)) livingAtomsUptoCard
end Rows
end Go.Proofs.YtellfinifjmloaaGreatDoor
