/- Walks: SalvageNames. -/
import Derived.Test.YtjnfijnfjblbnaaGreatDoorNames1
import Derived.Deep.OwnRows
import Derived.Laws.MakeOwn
namespace Go.Proofs.YtjnfijnfjblbnaaGreatDoor
open Go.RowKit Go.Maps
set_option linter.unusedVariables false

theorem makeB (n : Nat) (hn : n ≤ 281474976710656) (w : World) : (Instr.makeSlice 22 (.int .i64 (n : Int)) (.int .i64 (n : Int))).run Tryz.prog w = .ok (.slice (some ⟨w.heap.size, 0, none⟩) n n) (w.alloc (.cells (madeCells #[.int .u8 0] n) 5)) :=
  run_make_row' (P := Tryz.prog) 22 5 (.int .u8 0) 1 Tryz.underlying22 (by kernel_rfl) rfl .i64 .i64 n (by omega) (by omega) w
theorem viewB {w W : World} {n : Nat} (hn : n ≤ 281474976710656) (h : W.heap[w.heap.size]? = some (.cells (madeCells #[.int .u8 0] n) 5 (0, 0))) : View W (.slice (some ⟨w.heap.size, 0, none⟩) n n) n 1 (bv (List.replicate n 0)) := by
  refine ⟨by simp [bv], .inr ⟨w.heap.size, 0, n, rfl, by simp [bv], Nat.le_refl _, by unfold maxLen; omega, (Array.getElem?_eq_some_iff.1 h).1, fun j u hj => ?_⟩⟩
  rw [cell_of_row _ _ _ _ _ _ h, Nat.zero_add]
  rw [bv, List.map_replicate] at hj
  obtain ⟨h1, h2⟩ := List.getElem?_eq_some_iff.1 hj
  simp at h1 h2
  subst h2
  simp [madeCells, h1, Nat.mod_one]

set_option maxHeartbeats 2000000 in
set_option maxRecDepth 100000 in
theorem names_true (w : World) : Calls Tryz.prog 3 #[] w fun e w' => e = .returned (.bool true) ∧ Below w.heap.size w w' := by
  have h55 : ((55 : Int) == 55) = true := by decide
  go_enter Tryz.func3, Tryz.ntmps3
  have bb0 : Below w.heap.size w w := Below.refl _ _
  go_wp2_with (first | go_skip | (with_reducible refine stM ?_))
  refine ⟨mk1 rfl rfl rfl rfl (makeB 768 (by decide) _) ?_⟩
  intro W1 z1 h1 b1
  have v1 := viewB (by decide) h1
  have bb1 : Below w.heap.size w W1 := bb0.trans (b1.mono bb0.size)
  clear h1 z1
  go_wp2_with (first | go_skip | (go_at_call 4; with_reducible refine stK ?_))
  refine ⟨(mend_blank _ 768 W1 v1).mono ?_⟩
  rintro e2 W2 ⟨rfl, b2⟩
  have bb2 : Below w.heap.size w W2 := bb1.trans (b2.mono bb1.size)
  go_wp2_with (first | go_skip | (with_reducible refine stM ?_))
  refine ⟨mk1 rfl rfl rfl rfl (makeB 768 (by decide) _) ?_⟩
  intro W3 z3 h3 b3
  have v3 := viewB (by decide) h3
  have bb3 : Below w.heap.size w W3 := bb2.trans (b3.mono bb2.size)
  clear h3 z3
  go_wp2_with (first | go_skip | (go_at_call 5; with_reducible refine stK ?_))
  refine ⟨(whole_blank _ 768 W3 v3).mono ?_⟩
  rintro e4 W4 ⟨rfl, b4⟩
  have bb4 : Below w.heap.size w W4 := bb3.trans (b4.mono bb3.size)
  go_wp2_with (first | go_skip | (with_reducible refine stM ?_))
  refine ⟨mk1 rfl rfl rfl rfl (makeB 768 (by decide) _) ?_⟩
  intro W5 z5 h5 b5
  have v5 := viewB (by decide) h5
  have bb5 : Below w.heap.size w W5 := bb4.trans (b5.mono bb4.size)
  clear h5 z5
  go_wp2_with (first | go_skip | (go_at_call 6; with_reducible refine stK ?_))
  refine ⟨(cut_blank _ 768 0 W5 v5).mono ?_⟩
  rintro e6 W6 ⟨rfl, b6⟩
  have bb6 : Below w.heap.size w W6 := bb5.trans (b6.mono bb5.size)
  go_wp2_with (first | go_skip | (with_reducible refine stM ?_))
  refine ⟨mk1 rfl rfl rfl rfl (makeB 768 (by decide) _) ?_⟩
  intro W7 z7 h7 b7
  have v7 := viewB (by decide) h7
  have bb7 : Below w.heap.size w W7 := bb6.trans (b7.mono bb6.size)
  clear h7 z7
  go_wp2_with (first | go_skip | (go_at_call 7; with_reducible refine stK ?_))
  refine ⟨(rescue_blank _ 768 W7 v7).mono ?_⟩
  rintro e8 W8 ⟨rfl, b8⟩
  have bb8 : Below w.heap.size w W8 := bb7.trans (b8.mono bb7.size)
  go_wp2
  go_ret
  exact ⟨rfl, bb8⟩
end Go.Proofs.YtjnfijnfjblbnaaGreatDoor
