/- The walk of TxnNames. -/
import Derived.Test.YtmedbedpgbbdgaaDoorTxnWalks
namespace Go.Proofs.YtmedbedpgbbdgaaDoor
open Go.RowKit
set_option linter.unusedVariables false

theorem names_of (p q : Addr) (W : World) (c0 : W.cell? ⟨0, 0, none⟩ = some (.iface 76 (.pointer (some p)))) (c1 : W.cell? ⟨1, 0, none⟩ = some (.iface 76 (.pointer (some q))))
    (C0 : Calls Tryd.prog 14 #[.iface 76 (.pointer (some p))] W fun e w' => e = .returned (.int .i64 180) ∧ w' = W) (C1 : Calls Tryd.prog 14 #[.iface 76 (.pointer (some q))] W fun e w' => e = .returned (.int .i64 181) ∧ w' = W) :
    Calls Tryd.prog 5 #[] W fun e w' => e = .returned (.bool true) ∧ w' = W := by
  go_enter Tryd.func5, Tryd.ntmps5
  go_wp2_with (go_at_call 14; with_reducible refine stK ?_)
  refine ⟨C0.mono ?_⟩
  rintro e w' ⟨rfl, rfl⟩
  go_wp2_with (first | go_skip | (go_at_call 14; with_reducible refine stK ?_))
  refine ⟨C1.mono ?_⟩
  rintro e w' ⟨rfl, rfl⟩
  go_wp2
  go_ret
  exact ⟨rfl, rfl⟩

theorem names_true (a : Nat → Addr) (W : World) (hF : Fixed W a) : Calls Tryd.prog 5 #[] W fun e w' => e = .returned (.bool true) ∧ w' = W :=
  names_of (a 0) (a 1) W hF.c0 hF.c1 (code_180 a W hF) (code_181 a W hF)
end Go.Proofs.YtmedbedpgbbdgaaDoor
