/-
  DERIVED. GIVEN WITH THE SEED: THE CARDS: each row of YtjdboncaegphmaaGreatDoorRows.lean that lists a variable, with what it lists TIED to the program's text (the seventh form; the later family's looks); each row that meets fmt, with fmt's text TOLD by the authors' own Lean function (tested against real Go, not proved from fmt's source: count such statements apart). THE CARD IS WHAT COUNTS. Prove the row's statement (the work); the ties are given (YtjdboncaegphmaaGreatDoorTie.lean); close each card by the builder's one call (the guide's Derived/Test/ToyasCard.lean, 'card_holds'). Laid BY PROGRAM, IN A SANDBOX (cutbox-door.mjs). By AI agents, Wed Nov 11 2026. No macro, syntax, notation, axiom, sorry.
-/
import Derived.Test.YtjdboncaegphmaaGreatDoorRows
import GoSem.ClaimSeven
namespace Go.Proofs.YtjdboncaegphmaaGreatDoor
namespace Rows

/-- THE TIED CARD OF 'ledgerlaw23.SalvagePlays'. -/
def salvagePlaysCard : Claim7 := { stood := { row := salvagePlaysRow, standIns := [], harness := (true, "38c650fc5f5a1e92c2881c49f2157277a3b4ae27766a70e242e4f8a9c314afd9"), looks := true }, kinds := [], alts := [], laidByText := true, laidKinds := [.data, .data, .data, .data, .data], laidTests := true, laidLooks := .later }
def SalvagePlaysCardSaid : Prop := Claim7.holds Tryz.pinned (.plain (OpenSpec.ofChange salvagePlaysSpec)) salvagePlaysCard

/-- THE SECOND FORM's CARD OF 'ledgerlaw23.SalvagePlays'. -/
def salvagePlaysUptoCard : Claim7 := { stood := { row := salvagePlaysUptoRow, standIns := [], harness := (true, "38c650fc5f5a1e92c2881c49f2157277a3b4ae27766a70e242e4f8a9c314afd9"), looks := true }, kinds := [], alts := [], laidByText := true, laidKinds := [.data, .data, .data, .data, .data], laidTests := true, laidLooks := .later }
def SalvagePlaysUptoCardSaid : Prop := Claim7.holds Tryz.pinned (.plain (OpenSpec.upto salvagePlaysSpec)) salvagePlaysUptoCard
end Rows
end Go.Proofs.YtjdboncaegphmaaGreatDoor
