/-
  DERIVED. GIVEN WITH THE SEED: THE CARDS: each row of YtjlnniaknfpgiaaGreatDoorRows.lean that lists a variable, with what it lists TIED to the program's text (the seventh form; the later family's looks); each row that meets fmt, with fmt's text TOLD by the authors' own Lean function (tested against real Go, not proved from fmt's source: count such statements apart). THE CARD IS WHAT COUNTS. Prove the row's statement (the work); the ties are given (YtjlnniaknfpgiaaGreatDoorTie.lean); close each card by the builder's one call (the guide's Derived/Test/ToyasCard.lean, 'card_holds'). Laid BY PROGRAM, IN A SANDBOX (cutbox-door.mjs). By AI agents, Wed Nov 11 2026. No macro, syntax, notation, axiom, sorry.
-/
import Derived.Test.YtjlnniaknfpgiaaGreatDoorRows
import GoSem.ClaimSeven
namespace Go.Proofs.YtjlnniaknfpgiaaGreatDoor
namespace Rows

/-- THE TIED CARD OF 'quiltlaw21.LinegraphGraph'. -/
def linegraphGraphCard : Claim7 := { stood := { row := linegraphGraphRow, standIns := [], harness := (true, "19cbc3ffb3ff9a1c96e62c724f332d6c4a869ac19d41ccde1f9924c2b886e687"), looks := false }, kinds := [], alts := [], laidByText := true, laidKinds := [.data, .data, .data], laidTests := true, laidLooks := .later }
def LinegraphGraphCardSaid : Prop := Claim7.holds Tryz.pinned (.plain (OpenSpec.ofChange linegraphGraphSpec)) linegraphGraphCard

/-- THE TIED CARD OF 'quiltlaw21.LinegraphComponents'. -/
def linegraphComponentsCard : Claim7 := { stood := { row := linegraphComponentsRow, standIns := [], harness := (true, "19cbc3ffb3ff9a1c96e62c724f332d6c4a869ac19d41ccde1f9924c2b886e687"), looks := false }, kinds := [], alts := [], laidByText := true, laidKinds := [.data, .data, .data], laidTests := true, laidLooks := .later }
def LinegraphComponentsCardSaid : Prop := Claim7.holds Tryz.pinned (.plain (OpenSpec.ofChange linegraphComponentsSpec)) linegraphComponentsCard

/-- THE SECOND FORM's CARD OF 'quiltlaw21.LinegraphGraph'. -/
def linegraphGraphUptoCard : Claim7 := { stood := { row := linegraphGraphUptoRow, standIns := [], harness := (true, "19cbc3ffb3ff9a1c96e62c724f332d6c4a869ac19d41ccde1f9924c2b886e687"), looks := false }, kinds := [], alts := [], laidByText := true, laidKinds := [.data, .data, .data], laidTests := true, laidLooks := .later }
def LinegraphGraphUptoCardSaid : Prop := Claim7.holds Tryz.pinned (.plain (OpenSpec.upto linegraphGraphSpec)) linegraphGraphUptoCard

/-- THE SECOND FORM's CARD OF 'quiltlaw21.LinegraphComponents'. -/
def linegraphComponentsUptoCard : Claim7 := { stood := { row := linegraphComponentsUptoRow, standIns := [], harness := (true, "19cbc3ffb3ff9a1c96e62c724f332d6c4a869ac19d41ccde1f9924c2b886e687"), looks := false }, kinds := [], alts := [], laidByText := true, laidKinds := [.data, .data, .data], laidTests := true, laidLooks := .later }
def LinegraphComponentsUptoCardSaid : Prop := Claim7.holds Tryz.pinned (.plain (OpenSpec.upto linegraphComponentsSpec)) linegraphComponentsUptoCard
end Rows
end Go.Proofs.YtjlnniaknfpgiaaGreatDoor
