/- RemoteBegins: the document's New. -/
import Derived.Test.YtmedbedpgbbdgaaRemote2
namespace Go.Proofs.Ytmedbedpgbbdgaa
open Go.RowKit
set_option linter.unusedVariables false

set_option maxHeartbeats 1000000 in
theorem ref_ok (n : Nat) (v : Int) (bs : List UInt8) (hl : bs.length = 32) (h1 : 1 ≤ (n : Int)) (h2 : (n : Int) ≤ 32) (h3 : 0 ≤ v) (h4 : v ≤ 1073741824) (w : World) :
    Calls Try.prog 8 #[.int .i64 n, .int .i64 v, .agg (bv bs).toArray] w fun e w' => Below w.heap.size w w' ∧ ((¬ clear0 n bs ∧ e = .returned (.tuple #[.pointer none, .int .i64 1])) ∨
      (clear0 n bs ∧ ∃ b, e = .returned (.tuple #[.pointer (some ⟨b, 0, none⟩), .int .i64 0]) ∧ w.heap.size ≤ b ∧ w'.heap[b]? = some (.cells (.int .i64 n :: .int .i64 v :: bv bs).toArray 43 (0, 0)))) := by
  have h0 : 0 ≤ (n : Int) := by omega
  have LL := Lib.hid hl
  have hr : (bv bs).length = 32 := by simp [bv, hl]
  have HR := Lib.hid hr
  clear hl hr
  go_enter Try.func8, Try.ntmps8
  go_wp2_with (with_reducible refine stB 24 ?_)
  refine ⟨bx rfl 24 (.tmp 2) rfl (v := .agg (bv bs).toArray) rfl ?_⟩
  intro W1 z1 hh1 b1
  simp only [Value.cells] at hh1
  have H1 := Lib.hid hh1
  clear hh1
  go_wp2
  go_loop [8] (fun i => ∃ k : Nat, n ≤ k ∧ k ≤ 32 ∧ i = .int .i64 k ∧ Hid (∀ j, n ≤ j → j < k → bs.getD j 0 = 0)) (fun i => 32 - (intOf i).toNat)
  case atStart => exact ⟨n, by omega, by omega, rfl, fun j hj hj' => by omega⟩
  case round =>
    obtain ⟨k, hk1, hk2, rfl, HZ⟩ := hrel
    have hc : (k : Int) < 32 → W1.cell? ⟨w.heap.size, k, none⟩ = some (.int .u8 (bs.getD k 0).toNat) := fun h => root_cell LL.out H1.out k (by omega)
    go_wp2_with (with_reducible refine stL 24 ?_)
    · have hne : (((bs[k]?.getD 0).toNat : Int) != 0) = true := by assumption
      have hkn : (k : Int) < 32 := by assumption
      go_ret2
      refine ⟨b1, .inl ⟨fun hcl => ?_, rfl⟩⟩
      have := hcl k (by omega) (by omega)
      rw [List.getD] at this
      rw [this] at hne
      simp at hne
    · have he : (((bs[k]?.getD 0).toNat : Int) != 0) = false := by assumption
      have hkn : (k : Int) < 32 := by assumption
      refine ⟨⟨k + 1, by omega, by omega, by go_num, fun j hj hj' => ?_⟩, by simp [intOf]; omega⟩
      by_cases hjk : j < k
      · exact HZ j hj hjk
      · obtain rfl : j = k := by omega
        have : (bs[j]?.getD 0).toNat = 0 := by simpa using he
        rw [List.getD]
        exact UInt8.toNat_inj.1 (by rw [this]; rfl)
    · have hkn : 32 ≤ k := by omega
      refine ⟨ldRow rfl 24 (.tmp 5) rfl rfl (bv bs) (root_cells H1.out) Try.underlying24 rfl (size24 LL.out) ?_⟩
      go_wp2_with (with_reducible refine stBl 43 ?_)
      refine ⟨bl rfl 43 #[(0, .tmp 32), (1, .tmp 33), (2, .tmp 34)] rfl rfl (built43 v (n : Int) HR.out) ?_⟩
      go_wp2_with (with_reducible refine stB 43 ?_)
      refine ⟨bx rfl 43 (.tmp 35) rfl (v := .agg (.int .i64 n :: .int .i64 v :: bv bs).toArray) rfl ?_⟩
      intro W2 z2 h2 b2
      simp only [Value.cells] at h2
      rw [z1] at h2
      have bb := b1.trans (b2.mono (by omega))
      go_wp2
      go_ret2
      exact ⟨bb, .inr ⟨fun j hj hj' => HZ j hj (by omega), _, rfl, by omega, h2⟩⟩

set_option maxHeartbeats 1000000 in
theorem ref_no (n v : Int) (bs : List UInt8) (h : n < 1 ∨ 32 < n ∨ v < 0 ∨ 1073741824 < v) (w : World) :
    Calls Try.prog 8 #[.int .i64 n, .int .i64 v, .agg (bv bs).toArray] w fun e w' => Below w.heap.size w w' ∧ e = .returned (.tuple #[.pointer none, .int .i64 1]) := by
  go_enter Try.func8, Try.ntmps8
  go_wp2_with (with_reducible refine stB 24 ?_)
  refine ⟨bx rfl 24 (.tmp 2) rfl (v := .agg (bv bs).toArray) rfl ?_⟩
  intro W1 z1 hh1 b1
  clear hh1
  by_cases q1 : n < 1
  · go_wp2
    go_ret2
    exact ⟨b1, rfl⟩
  by_cases q2 : 32 < n
  · go_wp2
    go_ret2
    exact ⟨b1, rfl⟩
  by_cases q3 : v < 0
  · go_wp2
    go_ret2
    exact ⟨b1, rfl⟩
  have q4 : 1073741824 < v := by omega
  go_wp2
  go_ret2
  exact ⟨b1, rfl⟩

/-- Both sides, whatever the numbers. -/
theorem new_all (n v : Int) (bs : List UInt8) (hl : bs.length = 32) (w : World) :
    Calls Try.prog 7 #[.int .i64 n, .int .i64 v, .agg (bv bs).toArray] w fun e w' => Below w.heap.size w w' ∧ ((¬ (1 ≤ n ∧ n ≤ 32 ∧ 0 ≤ v ∧ v ≤ 1073741824 ∧ clear0 n.toNat bs) ∧ e = .returned (.tuple #[.pointer none, .int .i64 1])) ∨
      ((1 ≤ n ∧ n ≤ 32 ∧ 0 ≤ v ∧ v ≤ 1073741824 ∧ clear0 n.toNat bs) ∧ ∃ b, e = .returned (.tuple #[.pointer (some ⟨b, 0, none⟩), .int .i64 0]) ∧ w.heap.size ≤ b ∧ w'.heap[b]? = some (.cells (.int .i64 v :: (bv bs ++ [.int .i64 n])).toArray 39 (0, 0)))) := by
  by_cases h : 1 ≤ n ∧ n ≤ 32 ∧ 0 ≤ v ∧ v ≤ 1073741824
  · obtain ⟨h1, h2, h3, h4⟩ := h
    by_cases h32 : n = 32
    · subst h32
      refine (new_32 v bs hl h3 h4 w).mono fun e w' ⟨hb, hx⟩ => ⟨hb, .inr ⟨⟨by omega, by omega, h3, h4, fun j hj hj' => ?_⟩, hx⟩⟩
      have : 32 ≤ j := hj
      omega
    · obtain ⟨m, rfl⟩ : ∃ m : Nat, n = m := ⟨n.toNat, by omega⟩
      refine (new_ok m v bs hl h1 (by omega) h3 h4 w).mono fun e w' ⟨hb, hx⟩ => ⟨hb, ?_⟩
      rcases hx with ⟨hc, he⟩ | ⟨hc, hx⟩
      · exact .inl ⟨fun hh => hc hh.2.2.2.2, he⟩
      · exact .inr ⟨⟨h1, h2, h3, h4, hc⟩, hx⟩
  · refine (new_no n v bs (by omega) w).mono fun e w' ⟨hb, he⟩ => ⟨hb, .inl ⟨fun hh => h ⟨hh.1, hh.2.1, hh.2.2.1, hh.2.2.2.1⟩, he⟩⟩

theorem ref_all (n v : Int) (bs : List UInt8) (hl : bs.length = 32) (w : World) :
    Calls Try.prog 8 #[.int .i64 n, .int .i64 v, .agg (bv bs).toArray] w fun e w' => Below w.heap.size w w' ∧ ((¬ (1 ≤ n ∧ n ≤ 32 ∧ 0 ≤ v ∧ v ≤ 1073741824 ∧ clear0 n.toNat bs) ∧ e = .returned (.tuple #[.pointer none, .int .i64 1])) ∨
      ((1 ≤ n ∧ n ≤ 32 ∧ 0 ≤ v ∧ v ≤ 1073741824 ∧ clear0 n.toNat bs) ∧ ∃ b, e = .returned (.tuple #[.pointer (some ⟨b, 0, none⟩), .int .i64 0]) ∧ w.heap.size ≤ b ∧ w'.heap[b]? = some (.cells (.int .i64 n :: .int .i64 v :: bv bs).toArray 43 (0, 0)))) := by
  by_cases h : 1 ≤ n ∧ n ≤ 32 ∧ 0 ≤ v ∧ v ≤ 1073741824
  · obtain ⟨h1, h2, h3, h4⟩ := h
    obtain ⟨m, rfl⟩ : ∃ m : Nat, n = m := ⟨n.toNat, by omega⟩
    refine (ref_ok m v bs hl h1 h2 h3 h4 w).mono fun e w' ⟨hb, hx⟩ => ⟨hb, ?_⟩
    rcases hx with ⟨hc, he⟩ | ⟨hc, hx⟩
    · exact .inl ⟨fun hh => hc hh.2.2.2.2, he⟩
    · exact .inr ⟨⟨h1, h2, h3, h4, hc⟩, hx⟩
  · refine (ref_no n v bs (by omega) w).mono fun e w' ⟨hb, he⟩ => ⟨hb, .inl ⟨fun hh => h ⟨hh.1, hh.2.1, hh.2.2.1, hh.2.2.2.1⟩, he⟩⟩
end Go.Proofs.Ytmedbedpgbbdgaa
