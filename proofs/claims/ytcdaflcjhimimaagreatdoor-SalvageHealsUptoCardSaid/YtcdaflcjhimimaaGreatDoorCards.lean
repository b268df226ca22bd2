/-
  DERIVED. GIVEN WITH THE SEED: THE CARDS: each row of YtcdaflcjhimimaaGreatDoorRows.lean that lists a variable, with what it lists TIED to the program's text (the seventh form; the later family's looks); each row that meets fmt, with fmt's text TOLD by the authors' own Lean function (tested against real Go, not proved from fmt's source: count such statements apart). THE CARD IS WHAT COUNTS. Prove the row's statement (the work); the ties are given (YtcdaflcjhimimaaGreatDoorTie.lean); close each card by the builder's one call (the guide's Derived/Test/ToyasCard.lean, 'card_holds'). Laid BY PROGRAM, IN A SANDBOX (cutbox-door.mjs). By AI agents, Wed Nov 11 2026. No macro, syntax, notation, axiom, sorry.
-/
import Derived.Test.YtcdaflcjhimimaaGreatDoorRows
import GoSem.ClaimSeven
namespace Go.Proofs.YtcdaflcjhimimaaGreatDoor
namespace Rows

/-- THE TIED CARD OF 'ledgerlaw23.SalvageNever'. -/
def salvageNeverCard : Claim7 := { stood := { row := salvageNeverRow, standIns := [], harness := (true, "3df939fca4f7280e5b0282bf66d468c693281eb16730234dcd598ab47db7694a"), looks := false }, kinds := [], alts := [], laidByText := true, laidKinds := [.data, .data, .data], laidTests := true, laidLooks := .later }
def SalvageNeverCardSaid : Prop := Claim7.holds Tryz.pinned (.plain (OpenSpec.ofChange salvageNeverSpec)) salvageNeverCard

/-- THE TIED CARD OF 'ledgerlaw23.SalvageHeals'. -/
def salvageHealsCard : Claim7 := { stood := { row := salvageHealsRow, standIns := [], harness := (true, "3df939fca4f7280e5b0282bf66d468c693281eb16730234dcd598ab47db7694a"), looks := false }, kinds := [], alts := [], laidByText := true, laidKinds := [.data, .data, .data], laidTests := true, laidLooks := .later }
def SalvageHealsCardSaid : Prop := Claim7.holds Tryz.pinned (.plain (OpenSpec.ofChange salvageHealsSpec)) salvageHealsCard

/-- THE SECOND FORM's CARD OF 'ledgerlaw23.SalvageNever'. -/
def salvageNeverUptoCard : Claim7 := { stood := { row := salvageNeverUptoRow, standIns := [], harness := (true, "3df939fca4f7280e5b0282bf66d468c693281eb16730234dcd598ab47db7694a"), looks := false }, kinds := [], alts := [], laidByText := true, laidKinds := [.data, .data, .data], laidTests := true, laidLooks := .later }
def SalvageNeverUptoCardSaid : Prop := Claim7.holds Tryz.pinned (.plain (OpenSpec.upto salvageNeverSpec)) salvageNeverUptoCard

/-- THE SECOND FORM's CARD OF 'ledgerlaw23.SalvageHeals'. -/
def salvageHealsUptoCard : Claim7 := { stood := { row := salvageHealsUptoRow, standIns := [], harness := (true, "3df939fca4f7280e5b0282bf66d468c693281eb16730234dcd598ab47db7694a"), looks := false }, kinds := [], alts := [], laidByText := true, laidKinds := [.data, .data, .data], laidTests := true, laidLooks := .later }
def SalvageHealsUptoCardSaid : Prop := Claim7.holds Tryz.pinned (.plain (OpenSpec.upto salvageHealsSpec)) salvageHealsUptoCard
end Rows
end Go.Proofs.YtcdaflcjhimimaaGreatDoor
