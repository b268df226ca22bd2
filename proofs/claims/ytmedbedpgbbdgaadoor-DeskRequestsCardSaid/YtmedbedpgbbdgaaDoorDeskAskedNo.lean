/- Walks: the document's Asked, its refusals. Printed by gen_desk.py. -/
import Derived.Test.YtmedbedpgbbdgaaDoorDeskWalks3
namespace Go.Proofs.YtmedbedpgbbdgaaDoor
open Go.RowKit
set_option linter.unusedVariables false

set_option maxHeartbeats 1000000 in
set_option maxRecDepth 100000 in
theorem asked_no_0 (p : Option Addr) (c : Nat) (w : World) : Calls Tryd.prog 13 #[.slice p 0 c] w fun e w' => e = .returned (.tuple #[.agg #[.int .i64 0, .int .i64 0, .int .i64 0, .int .i64 0, .slice none 0 0, .slice none 0 0, .slice none 0 0], .int .i64 200]) ∧ Below w.heap.size w w' := by
  go_enter Tryd.func13, Tryd.ntmps13
  go_wp2_with (with_reducible refine stAl 24 ?_)
  refine ⟨al rfl 24 rfl (z := .agg #[.int .i64 0, .int .i64 0, .int .i64 0, .int .i64 0, .slice none 0 0, .slice none 0 0, .slice none 0 0]) (by kernel_rfl) ?_⟩
  intro W1 z1 h1 b1
  simp only [Value.cells] at h1
  have HA1 := Lib.hid h1
  clear h1
  go_wp2_with (with_reducible refine stAl 24 ?_)
  refine ⟨al rfl 24 rfl (z := .agg #[.int .i64 0, .int .i64 0, .int .i64 0, .int .i64 0, .slice none 0 0, .slice none 0 0, .slice none 0 0]) (by kernel_rfl) ?_⟩
  intro W2 z2 h2 b2
  simp only [Value.cells] at h2
  rw [z1] at h2 b2
  have HA2 := Lib.hid ((b2.block w.heap.size (by omega)).trans HA1.out)
  have bb2 : Below w.heap.size w W2 := b1.trans (b2.mono (by omega))
  obtain ⟨cN, fN⟩ := live h2
  clear h2 HA1
  go_wp2_with (first | go_skip | (go_at_call 17; go_in) | (with_reducible refine stW 24 ?_))
  refine ⟨stRow rfl 24 (.tmp 2) (.tmp 16) rfl rfl HA2.out (c' := #[.int .i64 0, .int .i64 0, .int .i64 0, .int .i64 0, .slice none 0 0, .slice none 0 0, .slice none 0 0]) rfl (by kernel_rfl) rfl (by simp [Value.oneCell']) ?_⟩
  intro W3 z3 h3 g3
  obtain ⟨cA, fA⟩ := live h3
  have bb3 : Below w.heap.size w W3 := bb2.grown g3 (by omega) (by simp)
  clear h3
  go_wp2
  exact bodyPost_ret (v := .tuple #[.agg #[.int .i64 0, .int .i64 0, .int .i64 0, .int .i64 0, .slice none 0 0, .slice none 0 0, .slice none 0 0], .int .i64 200]) (by simp [results, Tryd.results13, go_sem, cA]) rfl ⟨rfl, bb3⟩

set_option maxHeartbeats 1000000 in
set_option maxRecDepth 100000 in
theorem asked_no_m (p : Option Addr) (m c : Nat) (w : World) (h : 12000 < m) : Calls Tryd.prog 13 #[.slice p m c] w fun e w' => e = .returned (.tuple #[.agg #[.int .i64 0, .int .i64 0, .int .i64 0, .int .i64 0, .slice none 0 0, .slice none 0 0, .slice none 0 0], .int .i64 200]) ∧ Below w.heap.size w w' := by
  have q0 : ((m : Int) == 0) = false := by simp; omega
  have q1 : decide ((12000 : Int) < (m : Int)) = true := by simp; omega
  go_enter Tryd.func13, Tryd.ntmps13
  go_wp2_with (with_reducible refine stAl 24 ?_)
  refine ⟨al rfl 24 rfl (z := .agg #[.int .i64 0, .int .i64 0, .int .i64 0, .int .i64 0, .slice none 0 0, .slice none 0 0, .slice none 0 0]) (by kernel_rfl) ?_⟩
  intro W1 z1 h1 b1
  simp only [Value.cells] at h1
  have HA1 := Lib.hid h1
  clear h1
  go_wp2_with (with_reducible refine stAl 24 ?_)
  refine ⟨al rfl 24 rfl (z := .agg #[.int .i64 0, .int .i64 0, .int .i64 0, .int .i64 0, .slice none 0 0, .slice none 0 0, .slice none 0 0]) (by kernel_rfl) ?_⟩
  intro W2 z2 h2 b2
  simp only [Value.cells] at h2
  rw [z1] at h2 b2
  have HA2 := Lib.hid ((b2.block w.heap.size (by omega)).trans HA1.out)
  have bb2 : Below w.heap.size w W2 := b1.trans (b2.mono (by omega))
  obtain ⟨cN, fN⟩ := live h2
  clear h2 HA1
  go_wp2_with (first | go_skip | (go_at_call 17; go_in) | (with_reducible refine stW 24 ?_))
  refine ⟨stRow rfl 24 (.tmp 2) (.tmp 16) rfl rfl HA2.out (c' := #[.int .i64 0, .int .i64 0, .int .i64 0, .int .i64 0, .slice none 0 0, .slice none 0 0, .slice none 0 0]) rfl (by kernel_rfl) rfl (by simp [Value.oneCell']) ?_⟩
  intro W3 z3 h3 g3
  obtain ⟨cA, fA⟩ := live h3
  have bb3 : Below w.heap.size w W3 := bb2.grown g3 (by omega) (by simp)
  clear h3
  go_wp2
  exact bodyPost_ret (v := .tuple #[.agg #[.int .i64 0, .int .i64 0, .int .i64 0, .int .i64 0, .slice none 0 0, .slice none 0 0, .slice none 0 0], .int .i64 200]) (by simp [results, Tryd.results13, go_sem, cA]) rfl ⟨rfl, bb3⟩

set_option maxHeartbeats 1000000 in
set_option maxRecDepth 100000 in
theorem asked_no_x (p : Option Addr) (m c : Nat) (x : UInt8) (l : List UInt8) (w : World) (hv : View w (.slice p m c) m 1 (bv (x :: l))) (h0 : 0 < m) (h1 : m ≤ 12000) (hx : x.toNat < 1 ∨ 9 < x.toNat) : Calls Tryd.prog 13 #[.slice p m c] w fun e w' => e = .returned (.tuple #[.agg #[.int .i64 0, .int .i64 0, .int .i64 0, .int .i64 0, .slice none 0 0, .slice none 0 0, .slice none 0 0], .int .i64 200]) ∧ Below w.heap.size w w' := by
  have q0 : ((m : Int) == 0) = false := by simp; omega
  have q1 : decide ((12000 : Int) < (m : Int)) = false := by simp; omega
  have hx8 := x.toNat_lt
  have r1 : (((x.toNat : Nat) : Int) == 1) = false := by simp; omega
  have r2 : (((x.toNat : Nat) : Int) == 2) = false := by simp; omega
  have r3 : (((x.toNat : Nat) : Int) == 3) = false := by simp; omega
  have r4 : (((x.toNat : Nat) : Int) == 4) = false := by simp; omega
  have r5 : (((x.toNat : Nat) : Int) == 5) = false := by simp; omega
  have r6 : (((x.toNat : Nat) : Int) == 6) = false := by simp; omega
  have r7 : (((x.toNat : Nat) : Int) == 7) = false := by simp; omega
  have r8 : (((x.toNat : Nat) : Int) == 8) = false := by simp; omega
  have r9 : (((x.toNat : Nat) : Int) == 9) = false := by simp; omega
  clear hx
  go_enter Tryd.func13, Tryd.ntmps13
  go_wp2_with (with_reducible refine stAl 24 ?_)
  refine ⟨al rfl 24 rfl (z := .agg #[.int .i64 0, .int .i64 0, .int .i64 0, .int .i64 0, .slice none 0 0, .slice none 0 0, .slice none 0 0]) (by kernel_rfl) ?_⟩
  intro W1 z1 h1 b1
  simp only [Value.cells] at h1
  have HA1 := Lib.hid h1
  clear h1
  go_wp2_with (with_reducible refine stAl 24 ?_)
  refine ⟨al rfl 24 rfl (z := .agg #[.int .i64 0, .int .i64 0, .int .i64 0, .int .i64 0, .slice none 0 0, .slice none 0 0, .slice none 0 0]) (by kernel_rfl) ?_⟩
  intro W2 z2 h2 b2
  simp only [Value.cells] at h2
  rw [z1] at h2 b2
  have HA2 := Lib.hid ((b2.block w.heap.size (by omega)).trans HA1.out)
  have bb2 : Below w.heap.size w W2 := b1.trans (b2.mono (by omega))
  obtain ⟨cN, fN⟩ := live h2
  clear h2 HA1
  go_wp2_with (first | go_skip | (with_reducible refine stIg 22 ?_))
  refine ⟨idx sk22 rfl (.tmp 17) (.const (.int .i64 0)) rfl rfl (hv.below bb2) rfl 0 rfl (by omega) ?_⟩
  intro b' off' hc' hb'
  have hc1 : W2.cell? ⟨b', off', none⟩ = some (.int .u8 x.toNat) := by
    have := hc' 0 (.int .u8 x.toNat) rfl
    simpa using this
  clear hc' hb'
  go_wp2_with (first | go_skip | (go_at_call 17; go_in) | (with_reducible refine stW 24 ?_))
  refine ⟨stRow rfl 24 (.tmp 2) (.tmp 36) rfl rfl HA2.out (c' := #[.int .i64 0, .int .i64 0, .int .i64 0, .int .i64 0, .slice none 0 0, .slice none 0 0, .slice none 0 0]) rfl (by kernel_rfl) rfl (by simp [Value.oneCell']) ?_⟩
  intro W3 z3 h3 g3
  obtain ⟨cA, fA⟩ := live h3
  have bb3 : Below w.heap.size w W3 := bb2.grown g3 (by omega) (by simp)
  clear h3
  go_wp2
  exact bodyPost_ret (v := .tuple #[.agg #[.int .i64 0, .int .i64 0, .int .i64 0, .int .i64 0, .slice none 0 0, .slice none 0 0, .slice none 0 0], .int .i64 200]) (by simp [results, Tryd.results13, go_sem, cA]) rfl ⟨rfl, bb3⟩

set_option maxHeartbeats 1000000 in
set_option maxRecDepth 100000 in
theorem asked_no_2 (p : Option Addr) (m c : Nat) (l : List UInt8) (w : World) (hv : View w (.slice p m c) m 1 (bv (2 :: l))) (h0 : 0 < m) (h1 : m ≤ 12000) (hm : m ≠ 41) : Calls Tryd.prog 13 #[.slice p m c] w fun e w' => e = .returned (.tuple #[.agg #[.int .i64 0, .int .i64 0, .int .i64 0, .int .i64 0, .slice none 0 0, .slice none 0 0, .slice none 0 0], .int .i64 200]) ∧ Below w.heap.size w w' := by
  have q0 : ((m : Int) == 0) = false := by simp; omega
  have q1 : decide ((12000 : Int) < (m : Int)) = false := by simp; omega
  have q2 : ((m : Int) != 41) = true := by simp; omega
  go_enter Tryd.func13, Tryd.ntmps13
  go_wp2_with (with_reducible refine stAl 24 ?_)
  refine ⟨al rfl 24 rfl (z := .agg #[.int .i64 0, .int .i64 0, .int .i64 0, .int .i64 0, .slice none 0 0, .slice none 0 0, .slice none 0 0]) (by kernel_rfl) ?_⟩
  intro W1 z1 h1 b1
  simp only [Value.cells] at h1
  have HA1 := Lib.hid h1
  clear h1
  go_wp2_with (with_reducible refine stAl 24 ?_)
  refine ⟨al rfl 24 rfl (z := .agg #[.int .i64 0, .int .i64 0, .int .i64 0, .int .i64 0, .slice none 0 0, .slice none 0 0, .slice none 0 0]) (by kernel_rfl) ?_⟩
  intro W2 z2 h2 b2
  simp only [Value.cells] at h2
  rw [z1] at h2 b2
  have HA2 := Lib.hid ((b2.block w.heap.size (by omega)).trans HA1.out)
  have bb2 : Below w.heap.size w W2 := b1.trans (b2.mono (by omega))
  obtain ⟨cN, fN⟩ := live h2
  clear h2 HA1
  go_wp2_with (first | go_skip | (with_reducible refine stIg 22 ?_))
  refine ⟨idx sk22 rfl (.tmp 17) (.const (.int .i64 0)) rfl rfl (hv.below bb2) rfl 0 rfl (by omega) ?_⟩
  intro b' off' hc' hb'
  have hc1 : W2.cell? ⟨b', off', none⟩ = some (.int .u8 2) := by
    have := hc' 0 (.int .u8 2) rfl
    simpa using this
  clear hc' hb'
  go_wp2_with (first | go_skip | (go_at_call 17; go_in) | (with_reducible refine stW 24 ?_))
  refine ⟨stRow rfl 24 (.tmp 2) (.tmp 36) rfl rfl HA2.out (c' := #[.int .i64 0, .int .i64 0, .int .i64 0, .int .i64 0, .slice none 0 0, .slice none 0 0, .slice none 0 0]) rfl (by kernel_rfl) rfl (by simp [Value.oneCell']) ?_⟩
  intro W3 z3 h3 g3
  obtain ⟨cA, fA⟩ := live h3
  have bb3 : Below w.heap.size w W3 := bb2.grown g3 (by omega) (by simp)
  clear h3
  go_wp2
  exact bodyPost_ret (v := .tuple #[.agg #[.int .i64 0, .int .i64 0, .int .i64 0, .int .i64 0, .slice none 0 0, .slice none 0 0, .slice none 0 0], .int .i64 200]) (by simp [results, Tryd.results13, go_sem, cA]) rfl ⟨rfl, bb3⟩

set_option maxHeartbeats 1000000 in
set_option maxRecDepth 100000 in
theorem asked_no_3 (p : Option Addr) (m c : Nat) (l : List UInt8) (w : World) (hv : View w (.slice p m c) m 1 (bv (3 :: l))) (h0 : 0 < m) (h1 : m ≤ 12000) (hm : m ≠ 9) : Calls Tryd.prog 13 #[.slice p m c] w fun e w' => e = .returned (.tuple #[.agg #[.int .i64 0, .int .i64 0, .int .i64 0, .int .i64 0, .slice none 0 0, .slice none 0 0, .slice none 0 0], .int .i64 200]) ∧ Below w.heap.size w w' := by
  have q0 : ((m : Int) == 0) = false := by simp; omega
  have q1 : decide ((12000 : Int) < (m : Int)) = false := by simp; omega
  have q2 : ((m : Int) != 9) = true := by simp; omega
  go_enter Tryd.func13, Tryd.ntmps13
  go_wp2_with (with_reducible refine stAl 24 ?_)
  refine ⟨al rfl 24 rfl (z := .agg #[.int .i64 0, .int .i64 0, .int .i64 0, .int .i64 0, .slice none 0 0, .slice none 0 0, .slice none 0 0]) (by kernel_rfl) ?_⟩
  intro W1 z1 h1 b1
  simp only [Value.cells] at h1
  have HA1 := Lib.hid h1
  clear h1
  go_wp2_with (with_reducible refine stAl 24 ?_)
  refine ⟨al rfl 24 rfl (z := .agg #[.int .i64 0, .int .i64 0, .int .i64 0, .int .i64 0, .slice none 0 0, .slice none 0 0, .slice none 0 0]) (by kernel_rfl) ?_⟩
  intro W2 z2 h2 b2
  simp only [Value.cells] at h2
  rw [z1] at h2 b2
  have HA2 := Lib.hid ((b2.block w.heap.size (by omega)).trans HA1.out)
  have bb2 : Below w.heap.size w W2 := b1.trans (b2.mono (by omega))
  obtain ⟨cN, fN⟩ := live h2
  clear h2 HA1
  go_wp2_with (first | go_skip | (with_reducible refine stIg 22 ?_))
  refine ⟨idx sk22 rfl (.tmp 17) (.const (.int .i64 0)) rfl rfl (hv.below bb2) rfl 0 rfl (by omega) ?_⟩
  intro b' off' hc' hb'
  have hc1 : W2.cell? ⟨b', off', none⟩ = some (.int .u8 3) := by
    have := hc' 0 (.int .u8 3) rfl
    simpa using this
  clear hc' hb'
  go_wp2_with (first | go_skip | (go_at_call 17; go_in) | (with_reducible refine stW 24 ?_))
  refine ⟨stRow rfl 24 (.tmp 2) (.tmp 36) rfl rfl HA2.out (c' := #[.int .i64 0, .int .i64 0, .int .i64 0, .int .i64 0, .slice none 0 0, .slice none 0 0, .slice none 0 0]) rfl (by kernel_rfl) rfl (by simp [Value.oneCell']) ?_⟩
  intro W3 z3 h3 g3
  obtain ⟨cA, fA⟩ := live h3
  have bb3 : Below w.heap.size w W3 := bb2.grown g3 (by omega) (by simp)
  clear h3
  go_wp2
  exact bodyPost_ret (v := .tuple #[.agg #[.int .i64 0, .int .i64 0, .int .i64 0, .int .i64 0, .slice none 0 0, .slice none 0 0, .slice none 0 0], .int .i64 200]) (by simp [results, Tryd.results13, go_sem, cA]) rfl ⟨rfl, bb3⟩

set_option maxHeartbeats 1000000 in
set_option maxRecDepth 100000 in
theorem asked_no_4 (p : Option Addr) (m c : Nat) (l : List UInt8) (w : World) (hv : View w (.slice p m c) m 1 (bv (4 :: l))) (h0 : 0 < m) (h1 : m ≤ 12000) (hm : m ≠ 41) : Calls Tryd.prog 13 #[.slice p m c] w fun e w' => e = .returned (.tuple #[.agg #[.int .i64 0, .int .i64 0, .int .i64 0, .int .i64 0, .slice none 0 0, .slice none 0 0, .slice none 0 0], .int .i64 200]) ∧ Below w.heap.size w w' := by
  have q0 : ((m : Int) == 0) = false := by simp; omega
  have q1 : decide ((12000 : Int) < (m : Int)) = false := by simp; omega
  have q2 : ((m : Int) != 41) = true := by simp; omega
  go_enter Tryd.func13, Tryd.ntmps13
  go_wp2_with (with_reducible refine stAl 24 ?_)
  refine ⟨al rfl 24 rfl (z := .agg #[.int .i64 0, .int .i64 0, .int .i64 0, .int .i64 0, .slice none 0 0, .slice none 0 0, .slice none 0 0]) (by kernel_rfl) ?_⟩
  intro W1 z1 h1 b1
  simp only [Value.cells] at h1
  have HA1 := Lib.hid h1
  clear h1
  go_wp2_with (with_reducible refine stAl 24 ?_)
  refine ⟨al rfl 24 rfl (z := .agg #[.int .i64 0, .int .i64 0, .int .i64 0, .int .i64 0, .slice none 0 0, .slice none 0 0, .slice none 0 0]) (by kernel_rfl) ?_⟩
  intro W2 z2 h2 b2
  simp only [Value.cells] at h2
  rw [z1] at h2 b2
  have HA2 := Lib.hid ((b2.block w.heap.size (by omega)).trans HA1.out)
  have bb2 : Below w.heap.size w W2 := b1.trans (b2.mono (by omega))
  obtain ⟨cN, fN⟩ := live h2
  clear h2 HA1
  go_wp2_with (first | go_skip | (with_reducible refine stIg 22 ?_))
  refine ⟨idx sk22 rfl (.tmp 17) (.const (.int .i64 0)) rfl rfl (hv.below bb2) rfl 0 rfl (by omega) ?_⟩
  intro b' off' hc' hb'
  have hc1 : W2.cell? ⟨b', off', none⟩ = some (.int .u8 4) := by
    have := hc' 0 (.int .u8 4) rfl
    simpa using this
  clear hc' hb'
  go_wp2_with (first | go_skip | (go_at_call 17; go_in) | (with_reducible refine stW 24 ?_))
  refine ⟨stRow rfl 24 (.tmp 2) (.tmp 36) rfl rfl HA2.out (c' := #[.int .i64 0, .int .i64 0, .int .i64 0, .int .i64 0, .slice none 0 0, .slice none 0 0, .slice none 0 0]) rfl (by kernel_rfl) rfl (by simp [Value.oneCell']) ?_⟩
  intro W3 z3 h3 g3
  obtain ⟨cA, fA⟩ := live h3
  have bb3 : Below w.heap.size w W3 := bb2.grown g3 (by omega) (by simp)
  clear h3
  go_wp2
  exact bodyPost_ret (v := .tuple #[.agg #[.int .i64 0, .int .i64 0, .int .i64 0, .int .i64 0, .slice none 0 0, .slice none 0 0, .slice none 0 0], .int .i64 200]) (by simp [results, Tryd.results13, go_sem, cA]) rfl ⟨rfl, bb3⟩

set_option maxHeartbeats 1000000 in
set_option maxRecDepth 100000 in
theorem asked_no_5 (p : Option Addr) (m c : Nat) (l : List UInt8) (w : World) (hv : View w (.slice p m c) m 1 (bv (5 :: l))) (h0 : 0 < m) (h1 : m ≤ 12000) (hm : m ≠ 73) : Calls Tryd.prog 13 #[.slice p m c] w fun e w' => e = .returned (.tuple #[.agg #[.int .i64 0, .int .i64 0, .int .i64 0, .int .i64 0, .slice none 0 0, .slice none 0 0, .slice none 0 0], .int .i64 200]) ∧ Below w.heap.size w w' := by
  have q0 : ((m : Int) == 0) = false := by simp; omega
  have q1 : decide ((12000 : Int) < (m : Int)) = false := by simp; omega
  have q2 : ((m : Int) != 73) = true := by simp; omega
  go_enter Tryd.func13, Tryd.ntmps13
  go_wp2_with (with_reducible refine stAl 24 ?_)
  refine ⟨al rfl 24 rfl (z := .agg #[.int .i64 0, .int .i64 0, .int .i64 0, .int .i64 0, .slice none 0 0, .slice none 0 0, .slice none 0 0]) (by kernel_rfl) ?_⟩
  intro W1 z1 h1 b1
  simp only [Value.cells] at h1
  have HA1 := Lib.hid h1
  clear h1
  go_wp2_with (with_reducible refine stAl 24 ?_)
  refine ⟨al rfl 24 rfl (z := .agg #[.int .i64 0, .int .i64 0, .int .i64 0, .int .i64 0, .slice none 0 0, .slice none 0 0, .slice none 0 0]) (by kernel_rfl) ?_⟩
  intro W2 z2 h2 b2
  simp only [Value.cells] at h2
  rw [z1] at h2 b2
  have HA2 := Lib.hid ((b2.block w.heap.size (by omega)).trans HA1.out)
  have bb2 : Below w.heap.size w W2 := b1.trans (b2.mono (by omega))
  obtain ⟨cN, fN⟩ := live h2
  clear h2 HA1
  go_wp2_with (first | go_skip | (with_reducible refine stIg 22 ?_))
  refine ⟨idx sk22 rfl (.tmp 17) (.const (.int .i64 0)) rfl rfl (hv.below bb2) rfl 0 rfl (by omega) ?_⟩
  intro b' off' hc' hb'
  have hc1 : W2.cell? ⟨b', off', none⟩ = some (.int .u8 5) := by
    have := hc' 0 (.int .u8 5) rfl
    simpa using this
  clear hc' hb'
  go_wp2_with (first | go_skip | (go_at_call 17; go_in) | (with_reducible refine stW 24 ?_))
  refine ⟨stRow rfl 24 (.tmp 2) (.tmp 36) rfl rfl HA2.out (c' := #[.int .i64 0, .int .i64 0, .int .i64 0, .int .i64 0, .slice none 0 0, .slice none 0 0, .slice none 0 0]) rfl (by kernel_rfl) rfl (by simp [Value.oneCell']) ?_⟩
  intro W3 z3 h3 g3
  obtain ⟨cA, fA⟩ := live h3
  have bb3 : Below w.heap.size w W3 := bb2.grown g3 (by omega) (by simp)
  clear h3
  go_wp2
  exact bodyPost_ret (v := .tuple #[.agg #[.int .i64 0, .int .i64 0, .int .i64 0, .int .i64 0, .slice none 0 0, .slice none 0 0, .slice none 0 0], .int .i64 200]) (by simp [results, Tryd.results13, go_sem, cA]) rfl ⟨rfl, bb3⟩

set_option maxHeartbeats 1000000 in
set_option maxRecDepth 100000 in
theorem asked_no_6 (p : Option Addr) (m c : Nat) (l : List UInt8) (w : World) (hv : View w (.slice p m c) m 1 (bv (6 :: l))) (h0 : 0 < m) (h1 : m ≤ 12000) (hm : m ≠ 77) : Calls Tryd.prog 13 #[.slice p m c] w fun e w' => e = .returned (.tuple #[.agg #[.int .i64 0, .int .i64 0, .int .i64 0, .int .i64 0, .slice none 0 0, .slice none 0 0, .slice none 0 0], .int .i64 200]) ∧ Below w.heap.size w w' := by
  have q0 : ((m : Int) == 0) = false := by simp; omega
  have q1 : decide ((12000 : Int) < (m : Int)) = false := by simp; omega
  have q2 : ((m : Int) != 77) = true := by simp; omega
  go_enter Tryd.func13, Tryd.ntmps13
  go_wp2_with (with_reducible refine stAl 24 ?_)
  refine ⟨al rfl 24 rfl (z := .agg #[.int .i64 0, .int .i64 0, .int .i64 0, .int .i64 0, .slice none 0 0, .slice none 0 0, .slice none 0 0]) (by kernel_rfl) ?_⟩
  intro W1 z1 h1 b1
  simp only [Value.cells] at h1
  have HA1 := Lib.hid h1
  clear h1
  go_wp2_with (with_reducible refine stAl 24 ?_)
  refine ⟨al rfl 24 rfl (z := .agg #[.int .i64 0, .int .i64 0, .int .i64 0, .int .i64 0, .slice none 0 0, .slice none 0 0, .slice none 0 0]) (by kernel_rfl) ?_⟩
  intro W2 z2 h2 b2
  simp only [Value.cells] at h2
  rw [z1] at h2 b2
  have HA2 := Lib.hid ((b2.block w.heap.size (by omega)).trans HA1.out)
  have bb2 : Below w.heap.size w W2 := b1.trans (b2.mono (by omega))
  obtain ⟨cN, fN⟩ := live h2
  clear h2 HA1
  go_wp2_with (first | go_skip | (with_reducible refine stIg 22 ?_))
  refine ⟨idx sk22 rfl (.tmp 17) (.const (.int .i64 0)) rfl rfl (hv.below bb2) rfl 0 rfl (by omega) ?_⟩
  intro b' off' hc' hb'
  have hc1 : W2.cell? ⟨b', off', none⟩ = some (.int .u8 6) := by
    have := hc' 0 (.int .u8 6) rfl
    simpa using this
  clear hc' hb'
  go_wp2_with (first | go_skip | (go_at_call 17; go_in) | (with_reducible refine stW 24 ?_))
  refine ⟨stRow rfl 24 (.tmp 2) (.tmp 36) rfl rfl HA2.out (c' := #[.int .i64 0, .int .i64 0, .int .i64 0, .int .i64 0, .slice none 0 0, .slice none 0 0, .slice none 0 0]) rfl (by kernel_rfl) rfl (by simp [Value.oneCell']) ?_⟩
  intro W3 z3 h3 g3
  obtain ⟨cA, fA⟩ := live h3
  have bb3 : Below w.heap.size w W3 := bb2.grown g3 (by omega) (by simp)
  clear h3
  go_wp2
  exact bodyPost_ret (v := .tuple #[.agg #[.int .i64 0, .int .i64 0, .int .i64 0, .int .i64 0, .slice none 0 0, .slice none 0 0, .slice none 0 0], .int .i64 200]) (by simp [results, Tryd.results13, go_sem, cA]) rfl ⟨rfl, bb3⟩

set_option maxHeartbeats 1000000 in
set_option maxRecDepth 100000 in
theorem asked_no_7 (p : Option Addr) (m c : Nat) (l : List UInt8) (w : World) (hv : View w (.slice p m c) m 1 (bv (7 :: l))) (h0 : 0 < m) (h1 : m ≤ 12000) (hm : m ≠ 17) : Calls Tryd.prog 13 #[.slice p m c] w fun e w' => e = .returned (.tuple #[.agg #[.int .i64 0, .int .i64 0, .int .i64 0, .int .i64 0, .slice none 0 0, .slice none 0 0, .slice none 0 0], .int .i64 200]) ∧ Below w.heap.size w w' := by
  have q0 : ((m : Int) == 0) = false := by simp; omega
  have q1 : decide ((12000 : Int) < (m : Int)) = false := by simp; omega
  have q2 : ((m : Int) != 17) = true := by simp; omega
  go_enter Tryd.func13, Tryd.ntmps13
  go_wp2_with (with_reducible refine stAl 24 ?_)
  refine ⟨al rfl 24 rfl (z := .agg #[.int .i64 0, .int .i64 0, .int .i64 0, .int .i64 0, .slice none 0 0, .slice none 0 0, .slice none 0 0]) (by kernel_rfl) ?_⟩
  intro W1 z1 h1 b1
  simp only [Value.cells] at h1
  have HA1 := Lib.hid h1
  clear h1
  go_wp2_with (with_reducible refine stAl 24 ?_)
  refine ⟨al rfl 24 rfl (z := .agg #[.int .i64 0, .int .i64 0, .int .i64 0, .int .i64 0, .slice none 0 0, .slice none 0 0, .slice none 0 0]) (by kernel_rfl) ?_⟩
  intro W2 z2 h2 b2
  simp only [Value.cells] at h2
  rw [z1] at h2 b2
  have HA2 := Lib.hid ((b2.block w.heap.size (by omega)).trans HA1.out)
  have bb2 : Below w.heap.size w W2 := b1.trans (b2.mono (by omega))
  obtain ⟨cN, fN⟩ := live h2
  clear h2 HA1
  go_wp2_with (first | go_skip | (with_reducible refine stIg 22 ?_))
  refine ⟨idx sk22 rfl (.tmp 17) (.const (.int .i64 0)) rfl rfl (hv.below bb2) rfl 0 rfl (by omega) ?_⟩
  intro b' off' hc' hb'
  have hc1 : W2.cell? ⟨b', off', none⟩ = some (.int .u8 7) := by
    have := hc' 0 (.int .u8 7) rfl
    simpa using this
  clear hc' hb'
  go_wp2_with (first | go_skip | (go_at_call 17; go_in) | (with_reducible refine stW 24 ?_))
  refine ⟨stRow rfl 24 (.tmp 2) (.tmp 36) rfl rfl HA2.out (c' := #[.int .i64 0, .int .i64 0, .int .i64 0, .int .i64 0, .slice none 0 0, .slice none 0 0, .slice none 0 0]) rfl (by kernel_rfl) rfl (by simp [Value.oneCell']) ?_⟩
  intro W3 z3 h3 g3
  obtain ⟨cA, fA⟩ := live h3
  have bb3 : Below w.heap.size w W3 := bb2.grown g3 (by omega) (by simp)
  clear h3
  go_wp2
  exact bodyPost_ret (v := .tuple #[.agg #[.int .i64 0, .int .i64 0, .int .i64 0, .int .i64 0, .slice none 0 0, .slice none 0 0, .slice none 0 0], .int .i64 200]) (by simp [results, Tryd.results13, go_sem, cA]) rfl ⟨rfl, bb3⟩

set_option maxHeartbeats 1000000 in
set_option maxRecDepth 100000 in
theorem asked_no_8 (p : Option Addr) (m c : Nat) (l : List UInt8) (w : World) (hv : View w (.slice p m c) m 1 (bv (8 :: l))) (h0 : 0 < m) (h1 : m ≤ 12000) (hm : m ≠ 1) : Calls Tryd.prog 13 #[.slice p m c] w fun e w' => e = .returned (.tuple #[.agg #[.int .i64 0, .int .i64 0, .int .i64 0, .int .i64 0, .slice none 0 0, .slice none 0 0, .slice none 0 0], .int .i64 200]) ∧ Below w.heap.size w w' := by
  have q0 : ((m : Int) == 0) = false := by simp; omega
  have q1 : decide ((12000 : Int) < (m : Int)) = false := by simp; omega
  have q2 : ((m : Int) != 1) = true := by simp; omega
  go_enter Tryd.func13, Tryd.ntmps13
  go_wp2_with (with_reducible refine stAl 24 ?_)
  refine ⟨al rfl 24 rfl (z := .agg #[.int .i64 0, .int .i64 0, .int .i64 0, .int .i64 0, .slice none 0 0, .slice none 0 0, .slice none 0 0]) (by kernel_rfl) ?_⟩
  intro W1 z1 h1 b1
  simp only [Value.cells] at h1
  have HA1 := Lib.hid h1
  clear h1
  go_wp2_with (with_reducible refine stAl 24 ?_)
  refine ⟨al rfl 24 rfl (z := .agg #[.int .i64 0, .int .i64 0, .int .i64 0, .int .i64 0, .slice none 0 0, .slice none 0 0, .slice none 0 0]) (by kernel_rfl) ?_⟩
  intro W2 z2 h2 b2
  simp only [Value.cells] at h2
  rw [z1] at h2 b2
  have HA2 := Lib.hid ((b2.block w.heap.size (by omega)).trans HA1.out)
  have bb2 : Below w.heap.size w W2 := b1.trans (b2.mono (by omega))
  obtain ⟨cN, fN⟩ := live h2
  clear h2 HA1
  go_wp2_with (first | go_skip | (with_reducible refine stIg 22 ?_))
  refine ⟨idx sk22 rfl (.tmp 17) (.const (.int .i64 0)) rfl rfl (hv.below bb2) rfl 0 rfl (by omega) ?_⟩
  intro b' off' hc' hb'
  have hc1 : W2.cell? ⟨b', off', none⟩ = some (.int .u8 8) := by
    have := hc' 0 (.int .u8 8) rfl
    simpa using this
  clear hc' hb'
  go_wp2_with (first | go_skip | (go_at_call 17; go_in) | (with_reducible refine stW 24 ?_))
  refine ⟨stRow rfl 24 (.tmp 2) (.tmp 36) rfl rfl HA2.out (c' := #[.int .i64 0, .int .i64 0, .int .i64 0, .int .i64 0, .slice none 0 0, .slice none 0 0, .slice none 0 0]) rfl (by kernel_rfl) rfl (by simp [Value.oneCell']) ?_⟩
  intro W3 z3 h3 g3
  obtain ⟨cA, fA⟩ := live h3
  have bb3 : Below w.heap.size w W3 := bb2.grown g3 (by omega) (by simp)
  clear h3
  go_wp2
  exact bodyPost_ret (v := .tuple #[.agg #[.int .i64 0, .int .i64 0, .int .i64 0, .int .i64 0, .slice none 0 0, .slice none 0 0, .slice none 0 0], .int .i64 200]) (by simp [results, Tryd.results13, go_sem, cA]) rfl ⟨rfl, bb3⟩

set_option maxHeartbeats 1000000 in
set_option maxRecDepth 100000 in
theorem asked_no_9 (p : Option Addr) (m c : Nat) (l : List UInt8) (w : World) (hv : View w (.slice p m c) m 1 (bv (9 :: l))) (h0 : 0 < m) (h1 : m ≤ 12000) (hm : m ≠ 1) : Calls Tryd.prog 13 #[.slice p m c] w fun e w' => e = .returned (.tuple #[.agg #[.int .i64 0, .int .i64 0, .int .i64 0, .int .i64 0, .slice none 0 0, .slice none 0 0, .slice none 0 0], .int .i64 200]) ∧ Below w.heap.size w w' := by
  have q0 : ((m : Int) == 0) = false := by simp; omega
  have q1 : decide ((12000 : Int) < (m : Int)) = false := by simp; omega
  have q2 : ((m : Int) != 1) = true := by simp; omega
  go_enter Tryd.func13, Tryd.ntmps13
  go_wp2_with (with_reducible refine stAl 24 ?_)
  refine ⟨al rfl 24 rfl (z := .agg #[.int .i64 0, .int .i64 0, .int .i64 0, .int .i64 0, .slice none 0 0, .slice none 0 0, .slice none 0 0]) (by kernel_rfl) ?_⟩
  intro W1 z1 h1 b1
  simp only [Value.cells] at h1
  have HA1 := Lib.hid h1
  clear h1
  go_wp2_with (with_reducible refine stAl 24 ?_)
  refine ⟨al rfl 24 rfl (z := .agg #[.int .i64 0, .int .i64 0, .int .i64 0, .int .i64 0, .slice none 0 0, .slice none 0 0, .slice none 0 0]) (by kernel_rfl) ?_⟩
  intro W2 z2 h2 b2
  simp only [Value.cells] at h2
  rw [z1] at h2 b2
  have HA2 := Lib.hid ((b2.block w.heap.size (by omega)).trans HA1.out)
  have bb2 : Below w.heap.size w W2 := b1.trans (b2.mono (by omega))
  obtain ⟨cN, fN⟩ := live h2
  clear h2 HA1
  go_wp2_with (first | go_skip | (with_reducible refine stIg 22 ?_))
  refine ⟨idx sk22 rfl (.tmp 17) (.const (.int .i64 0)) rfl rfl (hv.below bb2) rfl 0 rfl (by omega) ?_⟩
  intro b' off' hc' hb'
  have hc1 : W2.cell? ⟨b', off', none⟩ = some (.int .u8 9) := by
    have := hc' 0 (.int .u8 9) rfl
    simpa using this
  clear hc' hb'
  go_wp2_with (first | go_skip | (go_at_call 17; go_in) | (with_reducible refine stW 24 ?_))
  refine ⟨stRow rfl 24 (.tmp 2) (.tmp 36) rfl rfl HA2.out (c' := #[.int .i64 0, .int .i64 0, .int .i64 0, .int .i64 0, .slice none 0 0, .slice none 0 0, .slice none 0 0]) rfl (by kernel_rfl) rfl (by simp [Value.oneCell']) ?_⟩
  intro W3 z3 h3 g3
  obtain ⟨cA, fA⟩ := live h3
  have bb3 : Below w.heap.size w W3 := bb2.grown g3 (by omega) (by simp)
  clear h3
  go_wp2
  exact bodyPost_ret (v := .tuple #[.agg #[.int .i64 0, .int .i64 0, .int .i64 0, .int .i64 0, .slice none 0 0, .slice none 0 0, .slice none 0 0], .int .i64 200]) (by simp [results, Tryd.results13, go_sem, cA]) rfl ⟨rfl, bb3⟩

end Go.Proofs.YtmedbedpgbbdgaaDoor
