/- RemoteBegins: New, where its numbers are good. -/
import Derived.Test.YtmedbedpgbbdgaaRemote1
namespace Go.Proofs.Ytmedbedpgbbdgaa
open Go.RowKit
set_option linter.unusedVariables false

/-- No byte from the n-th on is anything but 0. -/
def clear0 (n : Nat) (bs : List UInt8) : Prop := ∀ j, n ≤ j → j < 32 → bs.getD j 0 = 0

theorem root_cell {W : World} {b : Nat} {bs : List UInt8} (hl : bs.length = 32) (h : W.heap[b]? = some (.cells (bv bs).toArray 24 (0, 0))) (j : Nat) (hj : j < 32) : W.cell? ⟨b, j, none⟩ = some (.int .u8 (bs.getD j 0).toNat) := by
  rw [(live h).1 j]
  have : j < bs.length := by omega
  simp [bv, this]

theorem root_cells {W : World} {b : Nat} {bs : List UInt8} (h : W.heap[b]? = some (.cells (bv bs).toArray 24 (0, 0))) : Cells W b 0 (bv bs) := by
  intro j v hj
  rw [(live h).1]
  simpa using hj

theorem size24 {bs : List UInt8} (h : bs.length = 32) : (Try.prog.info? 24).map (·.size) = some (bv bs).length := by
  rw [bv_length, h]; kernel_rfl

set_option maxHeartbeats 1000000 in
theorem new_ok (n : Nat) (v : Int) (bs : List UInt8) (hl : bs.length = 32) (h1 : 1 ≤ (n : Int)) (h2 : (n : Int) < 32) (h3 : 0 ≤ v) (h4 : v ≤ 1073741824) (w : World) :
    Calls Try.prog 7 #[.int .i64 n, .int .i64 v, .agg (bv bs).toArray] w fun e w' => Below w.heap.size w w' ∧ ((¬ clear0 n bs ∧ e = .returned (.tuple #[.pointer none, .int .i64 1])) ∨
      (clear0 n bs ∧ ∃ b, e = .returned (.tuple #[.pointer (some ⟨b, 0, none⟩), .int .i64 0]) ∧ w.heap.size ≤ b ∧ w'.heap[b]? = some (.cells (.int .i64 v :: (bv bs ++ [.int .i64 n])).toArray 39 (0, 0)))) := by
  have h0 : 0 ≤ (n : Int) := by omega
  have h9 : ¬ (32 = n) := by omega
  have LL := Lib.hid hl
  have hr : (bv bs).length = 32 := by simp [bv, hl]
  have HR := Lib.hid hr
  clear hl hr
  go_enter Try.func7, Try.ntmps7
  go_wp2_with (with_reducible refine stB 24 ?_)
  refine ⟨bx rfl 24 (.tmp 2) rfl (v := .agg (bv bs).toArray) rfl ?_⟩
  intro W1 z1 hh1 b1
  simp only [Value.cells] at hh1
  have H1 := Lib.hid hh1
  clear hh1
  go_wp2
  go_loop [27] (fun i => ∃ k : Nat, k ≤ 32 - n ∧ i = .int .i64 k ∧ Hid (∀ j, j < k → bs.getD (n + j) 0 = 0)) (fun i => 32 - (intOf i).toNat)
  case atStart => exact ⟨0, by omega, rfl, fun j hj => by omega⟩
  case round =>
    obtain ⟨k, hk, rfl, HZ⟩ := hrel
    have hc : k < 32 - n → W1.cell? ⟨w.heap.size, n + k, none⟩ = some (.int .u8 (bs.getD (n + k) 0).toNat) := fun h => root_cell LL.out H1.out (n + k) (by omega)
    go_wp2_with (with_reducible refine stL 24 ?_)
    · have hne : (((bs[n + k]?.getD 0).toNat : Int) != 0) = true := by assumption
      have hkn : k < 32 - n := by assumption
      go_ret2
      refine ⟨b1, .inl ⟨fun hcl => ?_, rfl⟩⟩
      have := hcl (n + k) (by omega) (by omega)
      rw [List.getD] at this
      rw [this] at hne
      simp at hne
    · have he : (((bs[n + k]?.getD 0).toNat : Int) != 0) = false := by assumption
      have hkn : k < 32 - n := by assumption
      refine ⟨⟨k + 1, by omega, by go_num, fun j hj => ?_⟩, by simp [intOf]; omega⟩
      by_cases hjk : j < k
      · exact HZ j hjk
      · obtain rfl : j = k := by omega
        have : (bs[n + j]?.getD 0).toNat = 0 := by simpa using he
        rw [List.getD]
        exact UInt8.toNat_inj.1 (by rw [this]; rfl)
    · have hkn : ¬ k < 32 - n := by assumption
      refine ⟨ldRow rfl 24 (.tmp 5) rfl rfl (bv bs) (root_cells H1.out) Try.underlying24 rfl (size24 LL.out) ?_⟩
      go_wp2_with (with_reducible refine stBl 37 ?_)
      refine ⟨bl rfl 37 #[(0, .tmp 34), (1, .tmp 35)] rfl rfl (built37 v HR.out) ?_⟩
      go_wp2_with (with_reducible refine stBl 39 ?_)
      have hb := built39 v (n : Int) HR.out
      refine ⟨bl ?_ 39 #[(0, .tmp 36), (1, .tmp 37)] ?_ ?_ hb ?_⟩
      · rfl
      · rfl
      · rfl
      go_wp2_with (with_reducible refine stB 39 ?_)
      refine ⟨bx rfl 39 (.tmp 38) rfl (v := .agg (.int .i64 v :: (bv bs ++ [.int .i64 n])).toArray) rfl ?_⟩
      intro W2 z2 h2 b2
      simp only [Value.cells] at h2
      rw [z1] at h2
      have bb := b1.trans (b2.mono (by omega))
      go_wp2
      go_ret2
      refine ⟨bb, .inr ⟨fun j hj hj' => ?_, _, rfl, by omega, h2⟩⟩
      have := HZ (j - n) (by omega)
      rwa [show n + (j - n) = j by omega] at this

set_option maxHeartbeats 1000000 in
theorem new_32 (v : Int) (bs : List UInt8) (hl : bs.length = 32) (h3 : 0 ≤ v) (h4 : v ≤ 1073741824) (w : World) :
    Calls Try.prog 7 #[.int .i64 32, .int .i64 v, .agg (bv bs).toArray] w fun e w' => Below w.heap.size w w' ∧ 
      ∃ b, e = .returned (.tuple #[.pointer (some ⟨b, 0, none⟩), .int .i64 0]) ∧ w.heap.size ≤ b ∧ w'.heap[b]? = some (.cells (.int .i64 v :: (bv bs ++ [.int .i64 32])).toArray 39 (0, 0)) := by
  have LL := Lib.hid hl
  have hr : (bv bs).length = 32 := by simp [bv, hl]
  have HR := Lib.hid hr
  clear hl hr
  go_enter Try.func7, Try.ntmps7
  go_wp2_with (with_reducible refine stB 24 ?_)
  refine ⟨bx rfl 24 (.tmp 2) rfl (v := .agg (bv bs).toArray) rfl ?_⟩
  intro W1 z1 hh1 b1
  simp only [Value.cells] at hh1
  have H1 := Lib.hid hh1
  clear hh1
  go_wp2
  go_loop [27] (fun i => i = .int .i64 0) (fun i => 32 - (intOf i).toNat)
  case atStart => rfl
  case round =>
    obtain rfl := hrel
    go_wp2_with (with_reducible refine stL 24 ?_)
    refine ⟨ldRow rfl 24 (.tmp 5) rfl rfl (bv bs) (root_cells H1.out) Try.underlying24 rfl (size24 LL.out) ?_⟩
    go_wp2_with (with_reducible refine stBl 37 ?_)
    refine ⟨bl rfl 37 #[(0, .tmp 34), (1, .tmp 35)] rfl rfl (built37 v HR.out) ?_⟩
    go_wp2_with (with_reducible refine stBl 39 ?_)
    have hb := built39 v 32 HR.out
    refine ⟨bl ?_ 39 #[(0, .tmp 36), (1, .tmp 37)] ?_ ?_ hb ?_⟩
    · rfl
    · rfl
    · rfl
    go_wp2_with (with_reducible refine stB 39 ?_)
    refine ⟨bx rfl 39 (.tmp 38) rfl (v := .agg (.int .i64 v :: (bv bs ++ [.int .i64 32])).toArray) rfl ?_⟩
    intro W2 z2 h2 b2
    simp only [Value.cells] at h2
    rw [z1] at h2
    have bb := b1.trans (b2.mono (by omega))
    go_wp2
    go_ret2
    exact ⟨bb, _, rfl, by omega, h2⟩

set_option maxHeartbeats 1000000 in
theorem new_no (n v : Int) (bs : List UInt8) (h : n < 1 ∨ 32 < n ∨ v < 0 ∨ 1073741824 < v) (w : World) :
    Calls Try.prog 7 #[.int .i64 n, .int .i64 v, .agg (bv bs).toArray] w fun e w' => Below w.heap.size w w' ∧ e = .returned (.tuple #[.pointer none, .int .i64 1]) := by
  have hb : (decide (n < 1) || decide (32 < n) || decide (v < 0) || decide (1073741824 < v)) = true := by simp; omega
  go_enter Try.func7, Try.ntmps7
  go_wp2_with (with_reducible refine stB 24 ?_)
  refine ⟨bx rfl 24 (.tmp 2) rfl (v := .agg (bv bs).toArray) rfl ?_⟩
  intro W1 z1 hh1 b1
  clear hh1
  by_cases q1 : n < 1
  · go_wp2
    go_ret2
    exact ⟨b1, rfl⟩
  by_cases q2 : 32 < n
  · go_wp2
    go_ret2
    exact ⟨b1, rfl⟩
  by_cases q3 : v < 0
  · go_wp2
    go_ret2
    exact ⟨b1, rfl⟩
  have q4 : 1073741824 < v := by omega
  go_wp2
  go_ret2
  exact ⟨b1, rfl⟩
end Go.Proofs.Ytmedbedpgbbdgaa
