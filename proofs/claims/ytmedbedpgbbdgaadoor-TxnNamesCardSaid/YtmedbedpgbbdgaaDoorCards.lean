/-
  DERIVED. GIVEN WITH THE SEED: THE CARDS: each row of YtmedbedpgbbdgaaDoorRows.lean that lists a variable, with what it lists TIED to the program's text (the seventh form; the later family's looks); each row that meets fmt, with fmt's text TOLD by the authors' own Lean function (tested against real Go, not proved from fmt's source: count such statements apart). THE CARD IS WHAT COUNTS. Prove the row's statement (the work); the ties are given (YtmedbedpgbbdgaaDoorTie.lean); close each card by the builder's one call (the guide's Derived/Test/ToyasCard.lean, 'card_holds'). Laid BY PROGRAM, IN A SANDBOX (cutbox-door.mjs). By AI agents, Wed Nov 11 2026. No macro, syntax, notation, axiom, sorry.
-/
import Derived.Test.YtmedbedpgbbdgaaDoorRows
import GoSem.ClaimSeven
namespace Go.Proofs.YtmedbedpgbbdgaaDoor
namespace Rows

/-- THE TIED CARD OF 'ledgerlaw20.DeskRequests'. -/
def deskRequestsCard : Claim7 := { stood := { row := deskRequestsRow, standIns := [], harness := (true, "27ac5b050d4eac9dc986d6dc7bd726f99bfe708c0f68f73af2e43e258a518983"), looks := true }, kinds := [], alts := [], laidByText := true, laidKinds := [.data], laidTests := true, laidLooks := .later }
def DeskRequestsCardSaid : Prop := Claim7.holds Tryd.pinned (.plain (OpenSpec.ofChange deskRequestsSpec)) deskRequestsCard

/-- THE TIED CARD OF 'ledgerlaw20.DeskFrames'. -/
def deskFramesCard : Claim7 := { stood := { row := deskFramesRow, standIns := [], harness := (true, "27ac5b050d4eac9dc986d6dc7bd726f99bfe708c0f68f73af2e43e258a518983"), looks := true }, kinds := [], alts := [], laidByText := true, laidKinds := [.data], laidTests := true, laidLooks := .later }
def DeskFramesCardSaid : Prop := Claim7.holds Tryd.pinned (.plain (OpenSpec.ofChange deskFramesSpec)) deskFramesCard

/-- THE TIED CARD OF 'ledgerlaw18.TxnNames'. -/
def txnNamesCard : Claim7 := { stood := { row := txnNamesRow, standIns := [], harness := (true, "27ac5b050d4eac9dc986d6dc7bd726f99bfe708c0f68f73af2e43e258a518983"), looks := true }, kinds := [], alts := [], laidByText := true, laidKinds := [.sentinel, .sentinel, .sentinel, .sentinel, .sentinel, .sentinel, .sentinel, .sentinel, .sentinel, .sentinel, .sentinel, .sentinel, .sentinel, .sentinel, .sentinel, .sentinel, .sentinel, .sentinel, .sentinel, .sentinel], laidTests := true, laidLooks := .later }
def TxnNamesCardSaid : Prop := Claim7.holds Tryd.pinned (.plain (OpenSpec.ofChange txnNamesSpec)) txnNamesCard

/-- THE SECOND FORM's CARD OF 'ledgerlaw20.DeskRequests'. -/
def deskRequestsUptoCard : Claim7 := { stood := { row := deskRequestsUptoRow, standIns := [], harness := (true, "27ac5b050d4eac9dc986d6dc7bd726f99bfe708c0f68f73af2e43e258a518983"), looks := true }, kinds := [], alts := [], laidByText := true, laidKinds := [.data], laidTests := true, laidLooks := .later }
def DeskRequestsUptoCardSaid : Prop := Claim7.holds Tryd.pinned (.plain (OpenSpec.upto deskRequestsSpec)) deskRequestsUptoCard

/-- THE SECOND FORM's CARD OF 'ledgerlaw20.DeskFrames'. -/
def deskFramesUptoCard : Claim7 := { stood := { row := deskFramesUptoRow, standIns := [], harness := (true, "27ac5b050d4eac9dc986d6dc7bd726f99bfe708c0f68f73af2e43e258a518983"), looks := true }, kinds := [], alts := [], laidByText := true, laidKinds := [.data], laidTests := true, laidLooks := .later }
def DeskFramesUptoCardSaid : Prop := Claim7.holds Tryd.pinned (.plain (OpenSpec.upto deskFramesSpec)) deskFramesUptoCard

/-- THE SECOND FORM's CARD OF 'ledgerlaw18.TxnNames'. -/
def txnNamesUptoCard : Claim7 := { stood := { row := txnNamesUptoRow, standIns := [], harness := (true, "27ac5b050d4eac9dc986d6dc7bd726f99bfe708c0f68f73af2e43e258a518983"), looks := true }, kinds := [], alts := [], laidByText := true, laidKinds := [.sentinel, .sentinel, .sentinel, .sentinel, .sentinel, .sentinel, .sentinel, .sentinel, .sentinel, .sentinel, .sentinel, .sentinel, .sentinel, .sentinel, .sentinel, .sentinel, .sentinel, .sentinel, .sentinel, .sentinel], laidTests := true, laidLooks := .later }
def TxnNamesUptoCardSaid : Prop := Claim7.holds Tryd.pinned (.plain (OpenSpec.upto txnNamesSpec)) txnNamesUptoCard
end Rows
end Go.Proofs.YtmedbedpgbbdgaaDoor
