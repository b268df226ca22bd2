/-
  DERIVED. GIVEN WITH THE SEED: THE CARDS: each row of YtaapafoibofbjaaGreatDoorRows.lean that lists a variable, with what it lists TIED to the program's text (the seventh form; the later family's looks); each row that meets fmt, with fmt's text TOLD by the authors' own Lean function (tested against real Go, not proved from fmt's source: count such statements apart). THE CARD IS WHAT COUNTS. Prove the row's statement (the work); the ties are given (YtaapafoibofbjaaGreatDoorTie.lean); close each card by the builder's one call (the guide's Derived/Test/ToyasCard.lean, 'card_holds'). Laid BY PROGRAM, IN A SANDBOX (cutbox-door.mjs). By AI agents, Wed Nov 11 2026. No macro, syntax, notation, axiom, sorry.
-/
import Derived.Test.YtaapafoibofbjaaGreatDoorRows
import GoSem.ClaimSeven
namespace Go.Proofs.YtaapafoibofbjaaGreatDoor
namespace Rows

/-- THE TIED CARD OF 'ledgerlaw23.SalvageClean'. -/
def salvageCleanCard : Claim7 := { stood := { row := salvageCleanRow, standIns := [], harness := (true, "875f740accb9ee3e67d7c5a8bd2980386593c8d7acb3db93557f29b4974721ae"), looks := true }, kinds := [], alts := [], laidByText := true, laidKinds := [.data, .data, .data, .data, .data, .sentinel, .sentinel, .sentinel, .sentinel, .sentinel, .sentinel, .sentinel, .sentinel, .sentinel, .sentinel, .sentinel, .sentinel, .sentinel, .sentinel, .sentinel, .sentinel, .sentinel, .sentinel, .sentinel, .sentinel], laidTests := true, laidLooks := .later }
def SalvageCleanCardSaid : Prop := Claim7.holds Tryz.pinned (.plain (OpenSpec.ofChange salvageCleanSpec)) salvageCleanCard

/-- THE SECOND FORM's CARD OF 'ledgerlaw23.SalvageClean'. -/
def salvageCleanUptoCard : Claim7 := { stood := { row := salvageCleanUptoRow, standIns := [], harness := (true, "875f740accb9ee3e67d7c5a8bd2980386593c8d7acb3db93557f29b4974721ae"), looks := true }, kinds := [], alts := [], laidByText := true, laidKinds := [.data, .data, .data, .data, .data, .sentinel, .sentinel, .sentinel, .sentinel, .sentinel, .sentinel, .sentinel, .sentinel, .sentinel, .sentinel, .sentinel, .sentinel, .sentinel, .sentinel, .sentinel, .sentinel, .sentinel, .sentinel, .sentinel, .sentinel], laidTests := true, laidLooks := .later }
def SalvageCleanUptoCardSaid : Prop := Claim7.holds Tryz.pinned (.plain (OpenSpec.upto salvageCleanSpec)) salvageCleanUptoCard
end Rows
end Go.Proofs.YtaapafoibofbjaaGreatDoor
