/- Walks: sync.Once round the filling of a table; find. -/
import Derived.Test.YtjnfijnfjblbnaaGreatDoorFind1
import Derived.Test.YtjnfijnfjblbnaaGreatDoorOnceParts
namespace Go.Proofs.YtjnfijnfjblbnaaGreatDoor
open Go.RowKit Go.Maps
set_option linter.unusedVariables false

/-- A table's block behind the filling: done, the lock free, the map. -/
def doneCs (cs : Array Value) (toff mb : Nat) : Array Value := (((cs.setIfInBounds (toff + 1) (.int .i32 1)).setIfInBounds (toff + 3) (.map (some mb))).setIfInBounds toff (.int .u32 1)).setIfInBounds (toff + 1) (.int .i32 0)
theorem doneCs_size (cs : Array Value) (toff mb : Nat) : (doneCs cs toff mb).size = cs.size := by simp [doneCs]
theorem doneCs_0 (cs : Array Value) (toff mb : Nat) (h : toff + 3 < cs.size) : (doneCs cs toff mb)[toff]? = some (.int .u32 1) := by
  simp [doneCs, show toff < cs.size by omega]
theorem doneCs_3 (cs : Array Value) (toff mb : Nat) (h : toff + 3 < cs.size) : (doneCs cs toff mb)[toff + 3]? = some (.map (some mb)) := by
  simp [doneCs, h]
theorem doneCs_other (cs : Array Value) (toff mb j : Nat) (h0 : j ≠ toff) (h1 : j ≠ toff + 1) (h3 : j ≠ toff + 3) : (doneCs cs toff mb)[j]? = cs[j]? := by
  simp [doneCs, Ne.symm h0, Ne.symm h1, Ne.symm h3]

set_option maxRecDepth 100000 in
set_option maxHeartbeats 1600000 in
theorem slow_spec (pn pt tb toff n : Nat) (cs : Array Value) (T : TypeId) (w : World)
    (hn : w.heap[pn]? = some (.cells #[.int .i64 n] 3 (0, 0))) (ht : w.heap[pt]? = some (.cells #[.pointer (some ⟨tb, toff, none⟩)] 83 (0, 0)))
    (hc : w.heap[tb]? = some (.cells cs T (0, 0))) (hs : toff + 3 < cs.size) (hne1 : pn ≠ tb) (hne2 : pt ≠ tb) (h1 : 1 ≤ n) (h2 : n ≤ 4096)
    (k0 : cs[toff]? = some (.int .u32 0)) (k1 : cs[toff + 1]? = some (.int .i32 0)) :
    Calls Tryz.prog 50 #[.pointer (some ⟨tb, toff, none⟩), .func (.func 42) #[] #[.pointer (some ⟨pn, 0, none⟩), .pointer (some ⟨pt, 0, none⟩)]] w fun e w' => ∃ mb, e = .returned (.tuple #[]) ∧ w.grownBy w' (some tb) ∧ w.heap.size ≤ mb ∧
      w'.heap[tb]? = some (.cells (doneCs cs toff mb) T (0, 0)) ∧ w'.ownsMap Tryz.prog 44 (plainElem (H := Unit) Tryz.prog 3) mb (8 * n + 32) (Crc.putAll (Crc.pairs n) (.map [])) := by
  have ln : pn < w.heap.size := (Array.getElem?_eq_some_iff.1 hn).1
  have lt : pt < w.heap.size := (Array.getElem?_eq_some_iff.1 ht).1
  have lb : tb < w.heap.size := (Array.getElem?_eq_some_iff.1 hc).1
  have a0 : w.cell? ⟨tb, toff, none⟩ = some (.int .u32 0) := by rw [cell_of_row _ _ _ _ _ _ hc]; exact k0
  have a1 : w.cell? ⟨tb, toff + 1, none⟩ = some (.int .i32 0) := by rw [cell_of_row _ _ _ _ _ _ hc]; exact k1
  have f1 : w.frozen? ⟨tb, toff + 1, none⟩ = false := frozen_of_row _ _ _ _ _ hc
  -- behind the lock
  obtain ⟨w1, hw1⟩ : ∃ w1, w1 = w.setCell ⟨tb, toff + 1, none⟩ (.int .i32 1) := ⟨_, rfl⟩
  have q1 : w1.heap[tb]? = some (.cells (cs.setIfInBounds (toff + 1) (.int .i32 1)) T (0, 0)) := by rw [hw1]; exact block_set hc _
  have g1 : w.grownBy w1 (some tb) := by rw [hw1]; exact grownBy_set _ _ _ _
  have L1 : w1.cell? ⟨tb, toff, none⟩ = some (.int .u32 0) := by rw [cell_of_row _ _ _ _ _ _ q1]; simp [k0]
  have hl := run_call_load (P := Tryz.prog) Tryz.func57 (by kernel_rfl) (by kernel_rfl) (by kernel_rfl) .u32 (by kernel_rfl) (w := w1) (a := ⟨tb, toff, none⟩) (x := 0) L1
  have C := fill_spec pn pt tb toff n (cs.setIfInBounds (toff + 1) (.int .i32 1)) T w1 (keep g1 hn hne1) (keep g1 ht hne2) q1 (by simpa using hs) hne1 hne2 h1 h2
  have HW1 := Lib.hid hw1
  have HC := Lib.hid hc
  clear hw1 hc hn ht
  have hnot : ∀ (x : Bool) (w : World), (Op.unary .not (.bool x)).run Tryz.prog w = .ok (.bool (!x)) w := fun _ _ => rfl
  go_enter_defers Tryz.func50, Tryz.ntmps50
  go_wp2_with (go_at_call 58; with_reducible refine stK ?_)
  refine ⟨(lock_free ⟨tb, toff + 1, none⟩ w a1 f1).mono ?_⟩
  rintro e w' ⟨rfl, rfl⟩
  rw [← HW1.out]
  go_wp2_with (first | (go_at_call 49; go_in) | (go_at_call 42; with_reducible refine stK ?_))
  refine ⟨C.mono ?_⟩
  rintro e w2 ⟨mb, rfl, g2, l2, q2, m2⟩
  go_wp2
  -- the door: two deferred calls, the last laid first
  refine leaves_cons (f := 60) (args := #[.pointer (some ⟨tb, toff, none⟩), .bool true]) (by simp) (by simp [go_sem]) ?_
  have c2 : w2.cell? ⟨tb, toff, none⟩ = some (.int .u32 0) := by rw [cell_of_row _ _ _ _ _ _ q2]; simp [k0]
  have f2 : w2.frozen? ⟨tb, toff, none⟩ = false := frozen_of_row _ _ _ _ _ q2
  refine (store_deferred ⟨tb, toff, none⟩ (.int .u32 0) .returning w2 c2 f2).mono ?_
  rintro e u' w3 ⟨rfl, rfl, rfl⟩
  refine leaves_cons (f := 59) (args := #[.pointer (some ⟨tb, toff + 1, none⟩)]) (by simp [settle]) (by simp [go_sem]) ?_
  have q3 : (w2.drew.setCell ⟨tb, toff, none⟩ (.int .u32 1)).heap[tb]? = some (.cells (((cs.setIfInBounds (toff + 1) (.int .i32 1)).setIfInBounds (toff + 3) (.map (some mb))).setIfInBounds toff (.int .u32 1)) T (0, 0)) := block_set (w := w2.drew) q2 _
  have c3 : (w2.drew.setCell ⟨tb, toff, none⟩ (.int .u32 1)).cell? ⟨tb, toff + 1, none⟩ = some (.int .i32 1) := by rw [cell_of_row _ _ _ _ _ _ q3]; simp [show toff + 1 < cs.size by omega]
  have f3 : (w2.drew.setCell ⟨tb, toff, none⟩ (.int .u32 1)).frozen? ⟨tb, toff + 1, none⟩ = false := frozen_of_row _ _ _ _ _ q3
  refine (unlock_deferred ⟨tb, toff + 1, none⟩ _ _ c3 f3).mono ?_
  rintro e u' w4 ⟨rfl, rfl, rfl⟩
  have g3 : w2.drew.grownBy (w2.drew.setCell ⟨tb, toff, none⟩ (.int .u32 1)) (some tb) := grownBy_set _ _ _ _
  have g4 := grownBy_set (w2.drew.setCell ⟨tb, toff, none⟩ (.int .u32 1)) tb (toff + 1) (.int .i32 0)
  have g5 : w2.grownBy w2.drew (some tb) := ⟨rfl, rfl, rfl, Nat.le_refl _, fun _ _ _ => rfl⟩
  have hmb : mb ≠ tb := by have := g1.size; omega
  have P : ∃ mb, w.grownBy ((w2.drew.setCell ⟨tb, toff, none⟩ (.int .u32 1)).setCell ⟨tb, toff + 1, none⟩ (.int .i32 0)) (some tb) ∧ w.heap.size ≤ mb ∧
      ((w2.drew.setCell ⟨tb, toff, none⟩ (.int .u32 1)).setCell ⟨tb, toff + 1, none⟩ (.int .i32 0)).heap[tb]? = some (.cells (doneCs cs toff mb) T (0, 0)) ∧ ((w2.drew.setCell ⟨tb, toff, none⟩ (.int .u32 1)).setCell ⟨tb, toff + 1, none⟩ (.int .i32 0)).ownsMap Tryz.prog 44 (plainElem (H := Unit) Tryz.prog 3) mb (8 * n + 32) (Crc.putAll (Crc.pairs n) (.map [])) :=
    ⟨mb, grownBy_trans (grownBy_trans (grownBy_trans (grownBy_trans g1 g2) g5) g3) g4, by have := g1.size; omega, block_set q3 _, own_kept m2 ((Below.heap_setCell _ _ _ _ hmb).trans (Below.heap_setCell _ _ _ _ hmb))⟩
  obtain ⟨mb', r1, r2, r3, r4⟩ := P
  exact ⟨_, results_none rfl _ _ _, mb', rfl, r1, r2, r3, r4⟩

/-- What the table of a block with a text of n bytes holds. -/
def TabIs (w : World) (tb toff n : Nat) (cs : Array Value) : Prop :=
  toff + 3 < cs.size ∧ ((cs[toff]? = some (.int .u32 0) ∧ cs[toff + 1]? = some (.int .i32 0)) ∨
    ∃ mb, cs[toff]? = some (.int .u32 1) ∧ cs[toff + 3]? = some (.map (some mb)) ∧ w.ownsMap Tryz.prog 44 (plainElem (H := Unit) Tryz.prog 3) mb (8 * n + 32) (Crc.putAll (Crc.pairs n) (.map [])))

set_option maxRecDepth 100000 in
set_option maxHeartbeats 1600000 in
theorem do_first (pn pt tb toff n : Nat) (cs : Array Value) (T : TypeId) (w : World)
    (hn : w.heap[pn]? = some (.cells #[.int .i64 n] 3 (0, 0))) (ht : w.heap[pt]? = some (.cells #[.pointer (some ⟨tb, toff, none⟩)] 83 (0, 0)))
    (hc : w.heap[tb]? = some (.cells cs T (0, 0))) (hs : toff + 3 < cs.size) (hne1 : pn ≠ tb) (hne2 : pt ≠ tb) (h1 : 1 ≤ n) (h2 : n ≤ 4096)
    (k0 : cs[toff]? = some (.int .u32 0)) (k1 : cs[toff + 1]? = some (.int .i32 0)) :
    Calls Tryz.prog 41 #[.pointer (some ⟨tb, toff, none⟩), .func (.func 42) #[] #[.pointer (some ⟨pn, 0, none⟩), .pointer (some ⟨pt, 0, none⟩)]] w fun e w' => ∃ mb, e = .returned (.tuple #[]) ∧ w.grownBy w' (some tb) ∧ w.heap.size ≤ mb ∧
      w'.heap[tb]? = some (.cells (doneCs cs toff mb) T (0, 0)) ∧ w'.ownsMap Tryz.prog 44 (plainElem (H := Unit) Tryz.prog 3) mb (8 * n + 32) (Crc.putAll (Crc.pairs n) (.map [])) := by
  have a0 : w.cell? ⟨tb, toff, none⟩ = some (.int .u32 0) := by rw [cell_of_row _ _ _ _ _ _ hc]; exact k0
  have hl := run_call_load (P := Tryz.prog) Tryz.func57 (by kernel_rfl) (by kernel_rfl) (by kernel_rfl) .u32 (by kernel_rfl) (w := w) (a := ⟨tb, toff, none⟩) (x := 0) a0
  have C := slow_spec pn pt tb toff n cs T w hn ht hc hs hne1 hne2 h1 h2 k0 k1
  clear hn ht hc
  have hnot : ∀ (x : Bool) (w : World), (Op.unary .not (.bool x)).run Tryz.prog w = .ok (.bool (!x)) w := fun _ _ => rfl
  go_enter Tryz.func41, Tryz.ntmps41
  go_wp2_with (first | (go_at_call 49; go_in) | (go_at_call 50; with_reducible refine stK ?_))
  refine ⟨C.mono ?_⟩
  rintro e w2 ⟨mb, rfl, g2, l2, q2, m2⟩
  go_wp2
  go_end0
  exact ⟨mb, rfl, g2, l2, q2, m2⟩

set_option maxRecDepth 100000 in
set_option maxHeartbeats 1600000 in
theorem do_done (tb toff : Nat) (fv : Value) (w : World) (a0 : w.cell? ⟨tb, toff, none⟩ = some (.int .u32 1)) :
    Calls Tryz.prog 41 #[.pointer (some ⟨tb, toff, none⟩), fv] w fun e w' => e = .returned (.tuple #[]) ∧ w' = w := by
  have hl := run_call_load (P := Tryz.prog) Tryz.func57 (by kernel_rfl) (by kernel_rfl) (by kernel_rfl) .u32 (by kernel_rfl) (w := w) (a := ⟨tb, toff, none⟩) (x := 1) a0
  have hnot : ∀ (x : Bool) (w : World), (Op.unary .not (.bool x)).run Tryz.prog w = .ok (.bool (!x)) w := fun _ _ => rfl
  go_enter Tryz.func41, Tryz.ntmps41
  go_wp2
  go_end0
  exact ⟨rfl, rfl⟩
end Go.Proofs.YtjnfijnfjblbnaaGreatDoor
