/-
  DERIVED. GIVEN WITH THE SEED: THE CARDS: each row of YtcegniopmpmpiaaGreatDoorRows.lean that lists a variable, with what it lists TIED to the program's text (the seventh form; the later family's looks); each row that meets fmt, with fmt's text TOLD by the authors' own Lean function (tested against real Go, not proved from fmt's source: count such statements apart). THE CARD IS WHAT COUNTS. Prove the row's statement (the work); the ties are given (YtcegniopmpmpiaaGreatDoorTie.lean); close each card by the builder's one call (the guide's Derived/Test/ToyasCard.lean, 'card_holds'). Laid BY PROGRAM, IN A SANDBOX (cutbox-door.mjs). By AI agents, Wed Nov 11 2026. No macro, syntax, notation, axiom, sorry.
-/
import Derived.Test.YtcegniopmpmpiaaGreatDoorRows
import GoSem.ClaimSeven
namespace Go.Proofs.YtcegniopmpmpiaaGreatDoor
namespace Rows

/-- THE TIED CARD OF 'quiltlaw21.LinegraphOrder'. -/
def linegraphOrderCard : Claim7 := { stood := { row := linegraphOrderRow, standIns := [], harness := (true, "698c80e1c10f12f289bd675cff995787fac4500a65eb798b53b350b35ac93f51"), looks := false }, kinds := [], alts := [], laidByText := true, laidKinds := [.data, .data, .data], laidTests := true, laidLooks := .later }
def LinegraphOrderCardSaid : Prop := Claim7.holds Tryz.pinned (.plain (OpenSpec.ofChange linegraphOrderSpec)) linegraphOrderCard

/-- THE SECOND FORM's CARD OF 'quiltlaw21.LinegraphOrder'. -/
def linegraphOrderUptoCard : Claim7 := { stood := { row := linegraphOrderUptoRow, standIns := [], harness := (true, "698c80e1c10f12f289bd675cff995787fac4500a65eb798b53b350b35ac93f51"), looks := false }, kinds := [], alts := [], laidByText := true, laidKinds := [.data, .data, .data], laidTests := true, laidLooks := .later }
def LinegraphOrderUptoCardSaid : Prop := Claim7.holds Tryz.pinned (.plain (OpenSpec.upto linegraphOrderSpec)) linegraphOrderUptoCard
end Rows
end Go.Proofs.YtcegniopmpmpiaaGreatDoor
