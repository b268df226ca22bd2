/-
  DERIVED. GIVEN WITH THE SEED: THE PROGRAM's TIES (one call each: nine closed facts by the kernel) AND EACH ROW's TIE, after the 31st guide's Derived/Test/Toyas{Tie, Card}.lean. No idea stands in it: it is a product of the set-up. Laid BY PROGRAM, IN A SANDBOX (cutbox-door.mjs). By AI agents, Wed Nov 11 2026. No macro, syntax, notation, axiom, sorry.
-/
import Derived.Test.YtmedbedpgbbdgaaDoorRows
import Derived.LaidByTextLater
import Derived.SevenTiedAt
import Derived.LaidSub
import Derived.LaidOnce
namespace Go.Proofs.YtmedbedpgbbdgaaDoor
open Go
set_option maxRecDepth 100000
theorem seatTie1 : Tryd.prog.laidByTextLater [("ledger/ledger.ErrArg", Rows.laid_ledger_ledger_ErrArg), ("ledger/ledger.ErrDown", Rows.laid_ledger_ledger_ErrDown), ("ledger/ledger.ErrStale", Rows.laid_ledger_ledger_ErrStale), ("ledger/ledger.ErrCorrupt", Rows.laid_ledger_ledger_ErrCorrupt), ("ledger/ledger.ErrFull", Rows.laid_ledger_ledger_ErrFull), ("ledger/ledger.ErrForm", Rows.laid_ledger_ledger_ErrForm), ("ledger/ledger.ErrMany", Rows.laid_ledger_ledger_ErrMany), ("ledger/ledger.ErrLong", Rows.laid_ledger_ledger_ErrLong), ("ledger/ledger.ErrDup", Rows.laid_ledger_ledger_ErrDup), ("ledger/ledger.ErrBlank", Rows.laid_ledger_ledger_ErrBlank), ("ledger/ledger.ErrTaken", Rows.laid_ledger_ledger_ErrTaken), ("ledger/ledger.ErrRange", Rows.laid_ledger_ledger_ErrRange), ("ledger/ledger.ErrVersion", Rows.laid_ledger_ledger_ErrVersion), ("ledger/ledger.ErrGone", Rows.laid_ledger_ledger_ErrGone), ("ledger/ledger.ErrKey", Rows.laid_ledger_ledger_ErrKey), ("ledger/ledger.ErrTxn", Rows.laid_ledger_ledger_ErrTxn), ("ledger/ledger.ErrConflict", Rows.laid_ledger_ledger_ErrConflict), ("ledger/ledger.ErrStream", Rows.laid_ledger_ledger_ErrStream), ("ledger/ledger.ErrBase", Rows.laid_ledger_ledger_ErrBase), ("ledger/ledger.ErrMismatch", Rows.laid_ledger_ledger_ErrMismatch), ("ledger/desk.shapes", Rows.laid_ledger_desk_shapes)] [.sentinel, .sentinel, .sentinel, .sentinel, .sentinel, .sentinel, .sentinel, .sentinel, .sentinel, .sentinel, .sentinel, .sentinel, .sentinel, .sentinel, .sentinel, .sentinel, .sentinel, .sentinel, .sentinel, .sentinel, .data] true :=
  Program.laidByTextLater_by_one 403 8 61 (by kernel_rfl) (by kernel_rfl) (by kernel_rfl) (by kernel_rfl) (by kernel_rfl) (by kernel_rfl) (fun _ _ => by kernel_rfl)
theorem noOwnUnsafe : Tryd.pinned.checked.prog.headLifts.contains "ownunsafe" = false := by kernel_rfl
theorem tie : Tryd.prog.laidByTextLater [("ledger/desk.shapes", Rows.laid_ledger_desk_shapes)] [.data] true :=
  Program.laidByTextLater.sub seatTie1 ["ledger/desk.shapes"] (by kernel_rfl) (by kernel_rfl)
theorem deskRequests_row_tie : Rows.deskRequestsRow.laidByTextAt .later Tryd.pinned [.data] true :=
  OpenClaim.laidByTextAt_later rfl rfl tie noOwnUnsafe
theorem deskFrames_row_tie : Rows.deskFramesRow.laidByTextAt .later Tryd.pinned [.data] true :=
  OpenClaim.laidByTextAt_later rfl rfl tie noOwnUnsafe
theorem tie2 : Tryd.prog.laidByTextLater [("ledger/ledger.ErrArg", Rows.laid_ledger_ledger_ErrArg), ("ledger/ledger.ErrDown", Rows.laid_ledger_ledger_ErrDown), ("ledger/ledger.ErrStale", Rows.laid_ledger_ledger_ErrStale), ("ledger/ledger.ErrCorrupt", Rows.laid_ledger_ledger_ErrCorrupt), ("ledger/ledger.ErrFull", Rows.laid_ledger_ledger_ErrFull), ("ledger/ledger.ErrForm", Rows.laid_ledger_ledger_ErrForm), ("ledger/ledger.ErrMany", Rows.laid_ledger_ledger_ErrMany), ("ledger/ledger.ErrLong", Rows.laid_ledger_ledger_ErrLong), ("ledger/ledger.ErrDup", Rows.laid_ledger_ledger_ErrDup), ("ledger/ledger.ErrBlank", Rows.laid_ledger_ledger_ErrBlank), ("ledger/ledger.ErrTaken", Rows.laid_ledger_ledger_ErrTaken), ("ledger/ledger.ErrRange", Rows.laid_ledger_ledger_ErrRange), ("ledger/ledger.ErrVersion", Rows.laid_ledger_ledger_ErrVersion), ("ledger/ledger.ErrGone", Rows.laid_ledger_ledger_ErrGone), ("ledger/ledger.ErrKey", Rows.laid_ledger_ledger_ErrKey), ("ledger/ledger.ErrTxn", Rows.laid_ledger_ledger_ErrTxn), ("ledger/ledger.ErrConflict", Rows.laid_ledger_ledger_ErrConflict), ("ledger/ledger.ErrStream", Rows.laid_ledger_ledger_ErrStream), ("ledger/ledger.ErrBase", Rows.laid_ledger_ledger_ErrBase), ("ledger/ledger.ErrMismatch", Rows.laid_ledger_ledger_ErrMismatch)] [.sentinel, .sentinel, .sentinel, .sentinel, .sentinel, .sentinel, .sentinel, .sentinel, .sentinel, .sentinel, .sentinel, .sentinel, .sentinel, .sentinel, .sentinel, .sentinel, .sentinel, .sentinel, .sentinel, .sentinel] true :=
  Program.laidByTextLater.sub seatTie1 ["ledger/ledger.ErrArg", "ledger/ledger.ErrDown", "ledger/ledger.ErrStale", "ledger/ledger.ErrCorrupt", "ledger/ledger.ErrFull", "ledger/ledger.ErrForm", "ledger/ledger.ErrMany", "ledger/ledger.ErrLong", "ledger/ledger.ErrDup", "ledger/ledger.ErrBlank", "ledger/ledger.ErrTaken", "ledger/ledger.ErrRange", "ledger/ledger.ErrVersion", "ledger/ledger.ErrGone", "ledger/ledger.ErrKey", "ledger/ledger.ErrTxn", "ledger/ledger.ErrConflict", "ledger/ledger.ErrStream", "ledger/ledger.ErrBase", "ledger/ledger.ErrMismatch"] (by kernel_rfl) (by kernel_rfl)
theorem txnNames_row_tie : Rows.txnNamesRow.laidByTextAt .later Tryd.pinned [.sentinel, .sentinel, .sentinel, .sentinel, .sentinel, .sentinel, .sentinel, .sentinel, .sentinel, .sentinel, .sentinel, .sentinel, .sentinel, .sentinel, .sentinel, .sentinel, .sentinel, .sentinel, .sentinel, .sentinel] true :=
  OpenClaim.laidByTextAt_later rfl rfl tie2 noOwnUnsafe
theorem deskRequestsUpto_row_tie : Rows.deskRequestsUptoRow.laidByTextAt .later Tryd.pinned [.data] true :=
  OpenClaim.laidByTextAt_later rfl rfl tie noOwnUnsafe
theorem deskFramesUpto_row_tie : Rows.deskFramesUptoRow.laidByTextAt .later Tryd.pinned [.data] true :=
  OpenClaim.laidByTextAt_later rfl rfl tie noOwnUnsafe
theorem txnNamesUpto_row_tie : Rows.txnNamesUptoRow.laidByTextAt .later Tryd.pinned [.sentinel, .sentinel, .sentinel, .sentinel, .sentinel, .sentinel, .sentinel, .sentinel, .sentinel, .sentinel, .sentinel, .sentinel, .sentinel, .sentinel, .sentinel, .sentinel, .sentinel, .sentinel, .sentinel, .sentinel] true :=
  OpenClaim.laidByTextAt_later rfl rfl tie2 noOwnUnsafe
end Go.Proofs.YtmedbedpgbbdgaaDoor
