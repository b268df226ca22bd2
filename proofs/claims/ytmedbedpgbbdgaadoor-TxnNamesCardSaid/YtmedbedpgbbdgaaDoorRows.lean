/-
  NARROWER THAN 'FOR EVERY INPUT', by the rows' own cells (each row's printed sentence says how): DeskRequests: laid · DeskFrames: laid · TxnNames: laid.
  DERIVED. THE GIVEN ROWS OF THIS SEAT. 3 by the template 'for every input the law returns true; each argument reads behind the call as it read before'; 0 by the template 'total and deterministic' (their statements: YtmedbedpgbbdgaaDoorTotals.lean).
  GIVEN WITH THE SEED: the statements are not yours to turn. If you find one false, say at which input.
  Laid BY PROGRAM, IN A SANDBOX (cutbox-rows.mjs): the forced cells as the released guide's own fill.sh prints them over the translation 433503fecc3c4d65… (all of the seat's roots in one cut). By AI agents, Wed Nov 11 2026. No macro, syntax, notation, axiom, sorry.
-/
import Derived.Test.YtmedbedpgbbdgaaDoorChecked
import GoSem.Claim
import GoSem.ClaimJoined
import GoSem.ClaimMapViews
import Derived.JoinedTies
import Derived.KernelRfl
namespace Go.Proofs.YtmedbedpgbbdgaaDoor
/- THE CELL 'sum', in the pinned program and in every row, IS THE sha256 OF THE DUMP (.gsa) THAT YtmedbedpgbbdgaaDoorProg.lean LOADS. Nothing in Lean hashes anything: it is a label: what it is worth is what the hold of that sum in a sandbox is worth. -/
noncomputable def Tryd.pinned : Pinned := { name := "ytmedbedpgbbdgaadoor", sum := "433503fecc3c4d652b1169d2aa33f2f15d36c3556fcbd4766563d0f51f014336", checked := Tryd.checked }
namespace Rows
def none {H : Type} : Left H := { results := [], args := [] }

/- WHAT THE LISTED PACKAGE-LEVEL VARIABLES READ AS WHEN THE CALL BEGINS. Each datum BY PROGRAM (the guide's laid-datum.mjs) off the statement by which the dump's own 'gosem.cut.vars' lays the variable. In a bare row this is a premise. The card (YtmedbedpgbbdgaaDoorCards.lean) ties it to the program's text. -/
def laid_ledger_desk_shapes {H : Type} : DataW H := .agg [.agg [.lit (.bool false), .lit (.bool false), .lit (.bool false), .lit (.bool false), .lit (.bool false), .lit (.bool false)], .agg [.lit (.bool true), .lit (.bool false), .lit (.bool false), .lit (.bool false), .lit (.bool false), .lit (.bool false)], .agg [.lit (.bool false), .lit (.bool true), .lit (.bool false), .lit (.bool true), .lit (.bool false), .lit (.bool false)], .agg [.lit (.bool false), .lit (.bool false), .lit (.bool false), .lit (.bool true), .lit (.bool false), .lit (.bool false)], .agg [.lit (.bool false), .lit (.bool true), .lit (.bool false), .lit (.bool true), .lit (.bool false), .lit (.bool false)], .agg [.lit (.bool false), .lit (.bool true), .lit (.bool true), .lit (.bool true), .lit (.bool false), .lit (.bool false)], .agg [.lit (.bool false), .lit (.bool true), .lit (.bool true), .lit (.bool true), .lit (.bool false), .lit (.bool true)], .agg [.lit (.bool false), .lit (.bool false), .lit (.bool false), .lit (.bool true), .lit (.bool true), .lit (.bool false)], .agg [.lit (.bool false), .lit (.bool false), .lit (.bool false), .lit (.bool false), .lit (.bool false), .lit (.bool false)], .agg [.lit (.bool false), .lit (.bool false), .lit (.bool false), .lit (.bool false), .lit (.bool false), .lit (.bool false)]]
def laid_ledger_ledger_ErrArg {H : Type} : DataW H := .iface "*errors.errorString" (.ptr (.agg [.lit (.string [97, 32, 110, 117, 109, 98, 101, 114, 32, 116, 104, 97, 116, 32, 109, 97, 121, 32, 110, 111, 116, 32, 98, 101])]))
def laid_ledger_ledger_ErrDown {H : Type} : DataW H := .iface "*errors.errorString" (.ptr (.agg [.lit (.string [116, 104, 101, 32, 100, 105, 115, 107, 32, 104, 97, 115, 32, 110, 111, 32, 112, 111, 119, 101, 114])]))
def laid_ledger_ledger_ErrStale {H : Type} : DataW H := .iface "*errors.errorString" (.ptr (.agg [.lit (.string [111, 108, 100, 101, 114, 32, 116, 104, 97, 110, 32, 116, 104, 101, 32, 108, 97, 115, 116, 32, 99, 114, 97, 115, 104])]))
def laid_ledger_ledger_ErrCorrupt {H : Type} : DataW H := .iface "*errors.errorString" (.ptr (.agg [.lit (.string [116, 104, 101, 32, 100, 105, 115, 107, 32, 105, 115, 32, 99, 111, 114, 114, 117, 112, 116])]))
def laid_ledger_ledger_ErrFull {H : Type} : DataW H := .iface "*errors.errorString" (.ptr (.agg [.lit (.string [110, 111, 32, 112, 97, 103, 101, 32, 105, 115, 32, 108, 101, 102, 116])]))
def laid_ledger_ledger_ErrForm {H : Type} : DataW H := .iface "*errors.errorString" (.ptr (.agg [.lit (.string [110, 111, 32, 98, 97, 116, 99, 104])]))
def laid_ledger_ledger_ErrMany {H : Type} : DataW H := .iface "*errors.errorString" (.ptr (.agg [.lit (.string [116, 111, 111, 32, 109, 97, 110, 121, 32, 99, 104, 97, 110, 103, 101, 115])]))
def laid_ledger_ledger_ErrLong {H : Type} : DataW H := .iface "*errors.errorString" (.ptr (.agg [.lit (.string [97, 32, 118, 97, 108, 117, 101, 32, 116, 111, 111, 32, 108, 111, 110, 103])]))
def laid_ledger_ledger_ErrDup {H : Type} : DataW H := .iface "*errors.errorString" (.ptr (.agg [.lit (.string [111, 110, 101, 32, 107, 101, 121, 32, 116, 119, 105, 99, 101])]))
def laid_ledger_ledger_ErrBlank {H : Type} : DataW H := .iface "*errors.errorString" (.ptr (.agg [.lit (.string [110, 111, 116, 104, 105, 110, 103, 32, 105, 115, 32, 108, 97, 105, 100, 32, 104, 101, 114, 101])]))
def laid_ledger_ledger_ErrTaken {H : Type} : DataW H := .iface "*errors.errorString" (.ptr (.agg [.lit (.string [116, 104, 101, 114, 101, 32, 105, 115, 32, 115, 111, 109, 101, 116, 104, 105, 110, 103, 32, 97, 108, 114, 101, 97, 100, 121])]))
def laid_ledger_ledger_ErrRange {H : Type} : DataW H := .iface "*errors.errorString" (.ptr (.agg [.lit (.string [116, 104, 101, 32, 108, 111, 119, 32, 101, 110, 100, 32, 108, 105, 101, 115, 32, 97, 98, 111, 118, 101, 32, 116, 104, 101, 32, 104, 105, 103, 104, 32, 101, 110, 100])]))
def laid_ledger_ledger_ErrVersion {H : Type} : DataW H := .iface "*errors.errorString" (.ptr (.agg [.lit (.string [110, 111, 32, 115, 117, 99, 104, 32, 118, 101, 114, 115, 105, 111, 110, 32, 121, 101, 116])]))
def laid_ledger_ledger_ErrGone {H : Type} : DataW H := .iface "*errors.errorString" (.ptr (.agg [.lit (.string [97, 32, 118, 101, 114, 115, 105, 111, 110, 32, 98, 101, 108, 111, 119, 32, 116, 104, 101, 32, 102, 105, 114, 115, 116])]))
def laid_ledger_ledger_ErrKey {H : Type} : DataW H := .iface "*errors.errorString" (.ptr (.agg [.lit (.string [110, 111, 116, 32, 97, 32, 107, 101, 121, 39, 115, 32, 98, 121, 116, 101, 115])]))
def laid_ledger_ledger_ErrTxn {H : Type} : DataW H := .iface "*errors.errorString" (.ptr (.agg [.lit (.string [110, 111, 32, 115, 117, 99, 104, 32, 116, 114, 97, 110, 115, 97, 99, 116, 105, 111, 110])]))
def laid_ledger_ledger_ErrConflict {H : Type} : DataW H := .iface "*errors.errorString" (.ptr (.agg [.lit (.string [119, 104, 97, 116, 32, 119, 97, 115, 32, 114, 101, 97, 100, 32, 104, 97, 115, 32, 99, 104, 97, 110, 103, 101, 100])]))
def laid_ledger_ledger_ErrStream {H : Type} : DataW H := .iface "*errors.errorString" (.ptr (.agg [.lit (.string [110, 111, 32, 115, 116, 114, 101, 97, 109])]))
def laid_ledger_ledger_ErrBase {H : Type} : DataW H := .iface "*errors.errorString" (.ptr (.agg [.lit (.string [116, 104, 101, 32, 115, 116, 114, 101, 97, 109, 32, 98, 101, 103, 105, 110, 115, 32, 101, 108, 115, 101, 119, 104, 101, 114, 101])]))
def laid_ledger_ledger_ErrMismatch {H : Type} : DataW H := .iface "*errors.errorString" (.ptr (.agg [.lit (.string [97, 110, 111, 116, 104, 101, 114, 32, 114, 111, 111, 116, 32, 116, 104, 97, 110, 32, 116, 104, 101, 32, 115, 116, 114, 101, 97, 109, 32, 115, 97, 121, 115])]))

/-- 'ledgerlaw20.DeskRequests': WHATEVER THE INPUT: true; the input reads as it did. -/
def deskRequestsSpec : ChangeSpec := { name := "deskRequests", fn := fun _ => fun
  | [d] => { results := [.lit (.bool true)], args := [d] }
  | _ => none }
def deskRequestsRow : OpenClaim := { program := "ytmedbedpgbbdgaadoor", sum := "433503fecc3c4d652b1169d2aa33f2f15d36c3556fcbd4766563d0f51f014336", func := "ledger/ledgerlaw20.DeskRequests", spec := "deskRequests", named := ["ledger/desk.shapes"], apart := false, laid := [("ledger/desk.shapes", laid_ledger_desk_shapes)] }
def DeskRequestsSaid : Prop := deskRequestsRow.holds Tryd.pinned (OpenSpec.ofChange deskRequestsSpec)

/-- ITS FALSE NEIGHBOUR: 'it returns false'. Refute it at one input. -/
def deskRequestsWrong : ChangeSpec := { name := "deskRequests", fn := fun _ => fun
  | [d] => { results := [.lit (.bool false)], args := [d] }
  | _ => none }
def DeskRequestsWrongFalsely : Prop := deskRequestsRow.holds Tryd.pinned (OpenSpec.ofChange deskRequestsWrong)

/-- 'ledgerlaw20.DeskFrames': WHATEVER THE INPUT: true; the input reads as it did. -/
def deskFramesSpec : ChangeSpec := { name := "deskFrames", fn := fun _ => fun
  | [d] => { results := [.lit (.bool true)], args := [d] }
  | _ => none }
def deskFramesRow : OpenClaim := { program := "ytmedbedpgbbdgaadoor", sum := "433503fecc3c4d652b1169d2aa33f2f15d36c3556fcbd4766563d0f51f014336", func := "ledger/ledgerlaw20.DeskFrames", spec := "deskFrames", named := ["ledger/desk.shapes"], apart := false, laid := [("ledger/desk.shapes", laid_ledger_desk_shapes)] }
def DeskFramesSaid : Prop := deskFramesRow.holds Tryd.pinned (OpenSpec.ofChange deskFramesSpec)

/-- ITS FALSE NEIGHBOUR: 'it returns false'. Refute it at one input. -/
def deskFramesWrong : ChangeSpec := { name := "deskFrames", fn := fun _ => fun
  | [d] => { results := [.lit (.bool false)], args := [d] }
  | _ => none }
def DeskFramesWrongFalsely : Prop := deskFramesRow.holds Tryd.pinned (OpenSpec.ofChange deskFramesWrong)

/-- 'ledgerlaw18.TxnNames': WHATEVER THE INPUT: true; the input reads as it did. -/
def txnNamesSpec : ChangeSpec := { name := "txnNames", fn := fun _ => fun
  | [] => { results := [.lit (.bool true)], args := [] }
  | _ => none }
def txnNamesRow : OpenClaim := { program := "ytmedbedpgbbdgaadoor", sum := "433503fecc3c4d652b1169d2aa33f2f15d36c3556fcbd4766563d0f51f014336", func := "ledger/ledgerlaw18.TxnNames", spec := "txnNames", inPlace := ["internal/reflectlite.TypeOf"], unfollowed := true, recurses := true, named := ["ledger/ledger.ErrTxn", "ledger/ledger.ErrConflict", "ledger/ledger.ErrArg", "ledger/ledger.ErrDown", "ledger/ledger.ErrStale", "ledger/ledger.ErrCorrupt", "ledger/ledger.ErrFull", "ledger/ledger.ErrForm", "ledger/ledger.ErrMany", "ledger/ledger.ErrLong", "ledger/ledger.ErrDup", "ledger/ledger.ErrBlank", "ledger/ledger.ErrTaken", "ledger/ledger.ErrRange", "ledger/ledger.ErrVersion", "ledger/ledger.ErrGone", "ledger/ledger.ErrKey", "ledger/ledger.ErrStream", "ledger/ledger.ErrBase", "ledger/ledger.ErrMismatch"], apart := false, laid := [("ledger/ledger.ErrArg", laid_ledger_ledger_ErrArg), ("ledger/ledger.ErrDown", laid_ledger_ledger_ErrDown), ("ledger/ledger.ErrStale", laid_ledger_ledger_ErrStale), ("ledger/ledger.ErrCorrupt", laid_ledger_ledger_ErrCorrupt), ("ledger/ledger.ErrFull", laid_ledger_ledger_ErrFull), ("ledger/ledger.ErrForm", laid_ledger_ledger_ErrForm), ("ledger/ledger.ErrMany", laid_ledger_ledger_ErrMany), ("ledger/ledger.ErrLong", laid_ledger_ledger_ErrLong), ("ledger/ledger.ErrDup", laid_ledger_ledger_ErrDup), ("ledger/ledger.ErrBlank", laid_ledger_ledger_ErrBlank), ("ledger/ledger.ErrTaken", laid_ledger_ledger_ErrTaken), ("ledger/ledger.ErrRange", laid_ledger_ledger_ErrRange), ("ledger/ledger.ErrVersion", laid_ledger_ledger_ErrVersion), ("ledger/ledger.ErrGone", laid_ledger_ledger_ErrGone), ("ledger/ledger.ErrKey", laid_ledger_ledger_ErrKey), ("ledger/ledger.ErrTxn", laid_ledger_ledger_ErrTxn), ("ledger/ledger.ErrConflict", laid_ledger_ledger_ErrConflict), ("ledger/ledger.ErrStream", laid_ledger_ledger_ErrStream), ("ledger/ledger.ErrBase", laid_ledger_ledger_ErrBase), ("ledger/ledger.ErrMismatch", laid_ledger_ledger_ErrMismatch)] }
def TxnNamesSaid : Prop := txnNamesRow.holds Tryd.pinned (OpenSpec.ofChange txnNamesSpec)

/-- ITS FALSE NEIGHBOUR: 'it returns false'. Refute it at one input. -/
def txnNamesWrong : ChangeSpec := { name := "txnNames", fn := fun _ => fun
  | [] => { results := [.lit (.bool false)], args := [] }
  | _ => none }
def TxnNamesWrongFalsely : Prop := txnNamesRow.holds Tryd.pinned (OpenSpec.ofChange txnNamesWrong)

/- THE SECOND FORM. 'bulk': how many values and letters a reading holds, each counted each time it is reached (what is shared counts as often as it is met; a slice's spare places count too). A statement '..UptoSaid' is the law's where the arguments, and the package variables that the reading takes, are together of bulk at most 1048576: NARROWER than '..Said'. Prove '..Said' where nothing that the law and all that it calls make is longer than what came in: it says more and counts as full. Else prove '..UptoSaid'. A law counts once. -/
mutual
def uptoBulk {H : Type} : DataW H → Nat
  | .lit (.string bytes) => bytes.length + 1
  | .lit _ => 1
  | .nil => 1
  | .ptr d => uptoBulk d + 1
  | .slice elems spare => uptoBulkAll elems + uptoBulkAll spare + 1
  | .agg parts => uptoBulkAll parts + 1
  | .iface _ d => uptoBulk d + 1
  | .map entries => uptoBulkEntries entries + 1
  | .held _ => 1
def uptoBulkAll {H : Type} : List (DataW H) → Nat
  | [] => 0
  | d :: r => uptoBulk d + uptoBulkAll r
def uptoBulkEntries {H : Type} : List (Lit × DataW H) → Nat
  | [] => 0
  | x :: r => uptoBulkEntry x + uptoBulkEntries r
def uptoBulkEntry {H : Type} : Lit × DataW H → Nat
  | (.string bytes, d) => bytes.length + uptoBulk d + 1
  | (_, d) => uptoBulk d + 1
 end
def uptoSmall : (H : Type) → List (DataW H) → Bool := fun _ ds => decide (uptoBulkAll ds ≤ 1048576)
def OpenSpec.upto (s : _root_.Go.ChangeSpec) : _root_.Go.OpenSpec := { _root_.Go.OpenSpec.ofChange s with cond := some uptoSmall }

/-- 'ledgerlaw20.DeskRequests', WHERE WHAT IT READS IS OF BULK AT MOST 1048576: true; the input reads as it did. -/
def deskRequestsUptoRow : OpenClaim := { program := "ytmedbedpgbbdgaadoor", sum := "433503fecc3c4d652b1169d2aa33f2f15d36c3556fcbd4766563d0f51f014336", func := "ledger/ledgerlaw20.DeskRequests", spec := "deskRequests", named := ["ledger/desk.shapes"], apart := false, laid := [("ledger/desk.shapes", laid_ledger_desk_shapes)], narrowed := true }
def DeskRequestsUptoSaid : Prop := deskRequestsUptoRow.holds Tryd.pinned (OpenSpec.upto deskRequestsSpec)

/-- 'ledgerlaw20.DeskFrames', WHERE WHAT IT READS IS OF BULK AT MOST 1048576: true; the input reads as it did. -/
def deskFramesUptoRow : OpenClaim := { program := "ytmedbedpgbbdgaadoor", sum := "433503fecc3c4d652b1169d2aa33f2f15d36c3556fcbd4766563d0f51f014336", func := "ledger/ledgerlaw20.DeskFrames", spec := "deskFrames", named := ["ledger/desk.shapes"], apart := false, laid := [("ledger/desk.shapes", laid_ledger_desk_shapes)], narrowed := true }
def DeskFramesUptoSaid : Prop := deskFramesUptoRow.holds Tryd.pinned (OpenSpec.upto deskFramesSpec)

/-- 'ledgerlaw18.TxnNames', WHERE WHAT IT READS IS OF BULK AT MOST 1048576: true; the input reads as it did. -/
def txnNamesUptoRow : OpenClaim := { program := "ytmedbedpgbbdgaadoor", sum := "433503fecc3c4d652b1169d2aa33f2f15d36c3556fcbd4766563d0f51f014336", func := "ledger/ledgerlaw18.TxnNames", spec := "txnNames", inPlace := ["internal/reflectlite.TypeOf"], unfollowed := true, recurses := true, named := ["ledger/ledger.ErrTxn", "ledger/ledger.ErrConflict", "ledger/ledger.ErrArg", "ledger/ledger.ErrDown", "ledger/ledger.ErrStale", "ledger/ledger.ErrCorrupt", "ledger/ledger.ErrFull", "ledger/ledger.ErrForm", "ledger/ledger.ErrMany", "ledger/ledger.ErrLong", "ledger/ledger.ErrDup", "ledger/ledger.ErrBlank", "ledger/ledger.ErrTaken", "ledger/ledger.ErrRange", "ledger/ledger.ErrVersion", "ledger/ledger.ErrGone", "ledger/ledger.ErrKey", "ledger/ledger.ErrStream", "ledger/ledger.ErrBase", "ledger/ledger.ErrMismatch"], apart := false, laid := [("ledger/ledger.ErrArg", laid_ledger_ledger_ErrArg), ("ledger/ledger.ErrDown", laid_ledger_ledger_ErrDown), ("ledger/ledger.ErrStale", laid_ledger_ledger_ErrStale), ("ledger/ledger.ErrCorrupt", laid_ledger_ledger_ErrCorrupt), ("ledger/ledger.ErrFull", laid_ledger_ledger_ErrFull), ("ledger/ledger.ErrForm", laid_ledger_ledger_ErrForm), ("ledger/ledger.ErrMany", laid_ledger_ledger_ErrMany), ("ledger/ledger.ErrLong", laid_ledger_ledger_ErrLong), ("ledger/ledger.ErrDup", laid_ledger_ledger_ErrDup), ("ledger/ledger.ErrBlank", laid_ledger_ledger_ErrBlank), ("ledger/ledger.ErrTaken", laid_ledger_ledger_ErrTaken), ("ledger/ledger.ErrRange", laid_ledger_ledger_ErrRange), ("ledger/ledger.ErrVersion", laid_ledger_ledger_ErrVersion), ("ledger/ledger.ErrGone", laid_ledger_ledger_ErrGone), ("ledger/ledger.ErrKey", laid_ledger_ledger_ErrKey), ("ledger/ledger.ErrTxn", laid_ledger_ledger_ErrTxn), ("ledger/ledger.ErrConflict", laid_ledger_ledger_ErrConflict), ("ledger/ledger.ErrStream", laid_ledger_ledger_ErrStream), ("ledger/ledger.ErrBase", laid_ledger_ledger_ErrBase), ("ledger/ledger.ErrMismatch", laid_ledger_ledger_ErrMismatch)], narrowed := true }
def TxnNamesUptoSaid : Prop := txnNamesUptoRow.holds Tryd.pinned (OpenSpec.upto txnNamesSpec)

end Rows
end Go.Proofs.YtmedbedpgbbdgaaDoor
