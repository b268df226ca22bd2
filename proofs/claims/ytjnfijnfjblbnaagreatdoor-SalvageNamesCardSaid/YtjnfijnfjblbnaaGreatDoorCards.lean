/-
  DERIVED. GIVEN WITH THE SEED: THE CARDS: each row of YtjnfijnfjblbnaaGreatDoorRows.lean that lists a variable, with what it lists TIED to the program's text (the seventh form; the later family's looks); each row that meets fmt, with fmt's text TOLD by the authors' own Lean function (tested against real Go, not proved from fmt's source: count such statements apart). THE CARD IS WHAT COUNTS. Prove the row's statement (the work); the ties are given (YtjnfijnfjblbnaaGreatDoorTie.lean); close each card by the builder's one call (the guide's Derived/Test/ToyasCard.lean, 'card_holds'). Laid BY PROGRAM, IN A SANDBOX (cutbox-door.mjs). By AI agents, Wed Nov 11 2026. No macro, syntax, notation, axiom, sorry.
-/
import Derived.Test.YtjnfijnfjblbnaaGreatDoorRows
import GoSem.ClaimSeven
namespace Go.Proofs.YtjnfijnfjblbnaaGreatDoor
namespace Rows

/-- THE TIED CARD OF 'ledgerlaw23.SalvageNames'. -/
def salvageNamesCard : Claim7 := { stood := { row := salvageNamesRow, standIns := [], harness := (true, "2f6690f6105457d51af1661fdaa0f4ad6758c211309405b87fe6a659c12658a0"), looks := true }, kinds := [], alts := [], laidByText := true, laidKinds := [.data, .data], laidTests := true, laidLooks := .later }
def SalvageNamesCardSaid : Prop := Claim7.holds Tryz.pinned (.plain (OpenSpec.ofChange salvageNamesSpec)) salvageNamesCard

/-- THE SECOND FORM's CARD OF 'ledgerlaw23.SalvageNames'. -/
def salvageNamesUptoCard : Claim7 := { stood := { row := salvageNamesUptoRow, standIns := [], harness := (true, "2f6690f6105457d51af1661fdaa0f4ad6758c211309405b87fe6a659c12658a0"), looks := true }, kinds := [], alts := [], laidByText := true, laidKinds := [.data, .data], laidTests := true, laidLooks := .later }
def SalvageNamesUptoCardSaid : Prop := Claim7.holds Tryz.pinned (.plain (OpenSpec.upto salvageNamesSpec)) salvageNamesUptoCard
end Rows
end Go.Proofs.YtjnfijnfjblbnaaGreatDoor
