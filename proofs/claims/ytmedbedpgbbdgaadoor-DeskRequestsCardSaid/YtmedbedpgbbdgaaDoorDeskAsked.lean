/- Walks: the document's Asked. Printed by gen_desk.py. -/
import Derived.Test.YtmedbedpgbbdgaaDoorDeskWalks3
namespace Go.Proofs.YtmedbedpgbbdgaaDoor
open Go.RowKit
set_option linter.unusedVariables false

set_option maxHeartbeats 2000000 in
set_option maxRecDepth 100000 in
theorem asked_1 (p : Option Addr) (m : Nat) (c : Nat) (l : List UInt8) (w : World) (hv : View w (.slice p m c) m 1 (bv (1 :: l))) (hm : m = l.length + 1) (hmax : m ≤ 12000) :
    Calls Tryd.prog 13 #[.slice p m c] w fun e w' => ∃ pk nk ck ph nh ch pb nb cb, e = .returned (.tuple #[.agg #[.int .i64 1, .int .i64 0, .int .i64 0, .int .i64 0, .slice pk nk ck, .slice ph nh ch, .slice pb nb cb], .int .i64 0]) ∧ Below w.heap.size w w' ∧
        VA w' (.slice pk nk ck) nk [] w.heap.size ∧ VA w' (.slice ph nh ch) nh [] w.heap.size ∧ VA w' (.slice pb nb cb) nb (((1 :: l : List UInt8).drop 1).take l.length) w.heap.size := by
  have q0 : ((m : Int) == 0) = false := by simp; omega
  have q1 : decide ((12000 : Int) < (m : Int)) = false := by simp; omega
  have q2 : 1 ≤ m := by omega
  have hm' := Lib.hid hm
  clear hm
  go_enter Tryd.func13, Tryd.ntmps13
  go_wp2_with (with_reducible refine stAl 24 ?_)
  refine ⟨al rfl 24 rfl (z := .agg #[.int .i64 0, .int .i64 0, .int .i64 0, .int .i64 0, .slice none 0 0, .slice none 0 0, .slice none 0 0]) (by kernel_rfl) ?_⟩
  intro W1 z1 h1 b1
  simp only [Value.cells] at h1
  have HA1 := Lib.hid h1
  clear h1
  go_wp2_with (with_reducible refine stAl 24 ?_)
  refine ⟨al rfl 24 rfl (z := .agg #[.int .i64 0, .int .i64 0, .int .i64 0, .int .i64 0, .slice none 0 0, .slice none 0 0, .slice none 0 0]) (by kernel_rfl) ?_⟩
  intro W2 z2 h2 b2
  simp only [Value.cells] at h2
  rw [z1] at h2 b2
  have HA2 := Lib.hid ((b2.block w.heap.size (by omega)).trans HA1.out)
  have bb2 : Below w.heap.size w W2 := b1.trans (b2.mono (by omega))
  obtain ⟨cN, fN⟩ := live h2
  clear h2 HA1
  go_wp2_with (first | go_skip | (with_reducible refine stIg 22 ?_))
  refine ⟨idx sk22 rfl (.tmp 17) (.const (.int .i64 0)) rfl rfl (hv.below bb2) rfl 0 rfl (by omega) ?_⟩
  intro b' off' hc' hb'
  have hc1 : W2.cell? ⟨b', off', none⟩ = some (.int .u8 1) := by
    have := hc' 0 (.int .u8 1) rfl
    simpa using this
  clear hc' hb'
  go_wp2_with (first | go_skip | (go_at_call 17; go_in) | (with_reducible refine stAl 24 ?_))
  have y2 : W2.heap.size = w.heap.size + 2 := by omega
  refine ⟨al rfl 24 rfl (z := .agg #[.int .i64 0, .int .i64 0, .int .i64 0, .int .i64 0, .slice none 0 0, .slice none 0 0, .slice none 0 0]) (by kernel_rfl) ?_⟩
  intro W3 z3 h3 b3
  simp only [Value.cells] at h3
  rw [y2] at h3 b3
  have HA3 := Lib.hid ((b3.block w.heap.size (by omega)).trans HA2.out)
  have bb3 : Below w.heap.size w W3 := bb2.trans (b3.mono (by omega))
  clear cN fN hc1 HA2
  go_wp2_with (with_reducible refine stW 24 ?_)
  refine ⟨stRow rfl 24 (.tmp 7) (.tmp 38) rfl rfl h3 rfl (by kernel_rfl) rfl (by simp [Value.oneCell']) ?_⟩
  clear h3
  intro W4 z4 h4 g4
  have HQ4 : Hid (W4.heap[w.heap.size + 2]? = some (.cells #[.int .i64 1, .int .i64 0, .int .i64 0, .int .i64 0, .slice none 0 0, .slice none 0 0, .slice none 0 0] 24 (0, 0))) := h4
  have HA4 := Lib.hid (keep g4 HA3.out (by omega))
  have bb4 : Below w.heap.size w W4 := bb3.grown g4 (by omega) (by simp <;> omega)
  have y4 : w.heap.size + 3 ≤ W4.heap.size := by omega
  clear h4 HA3 g4 b3 bb3 bb2 b2 b1 z1 z2 z3 z4
  go_wp2_with (first | (go_at_call 22; with_reducible refine stK ?_) | (go_at_call 23; with_reducible refine stK ?_))
  rw [show ((m : Int) - 1) = ((l.length : Nat) : Int) from by have := hm'.out; omega]
  refine ⟨(cut_spec _ _ _ (1 :: l) 1 l.length _ (hv.below bb4) (by have := hm'.out; omega) (by have := hm'.out; omega)).mono ?_⟩
  rintro e W5 ⟨q5, d5, rfl, ho5, hb5⟩
  have HA5 := Lib.hid ((hb5.block _ (by omega)).trans HA4.out)
  have HQ5 := Lib.hid ((hb5.block _ (by omega)).trans HQ4.out)
  have bb5 : Below w.heap.size w W5 := bb4.trans (hb5.mono (by omega))
  have y5 : w.heap.size + 3 ≤ W5.heap.size := by have := hb5.size; omega
  have vB5 := (VA.own ho5).low y4
  go_wp2_with (with_reducible refine stW 22 ?_)
  refine ⟨stCell rfl 22 (.tmp 47) (.tmp 46) rfl rfl HQ5.out (v := .slice q5 (l.length) d5) rfl rfl (by kernel_rfl) (by simp) ?_⟩
  intro W6 z6 h6 g6
  have HQ6 : Hid (W6.heap[w.heap.size + 2]? = some (.cells #[.int .i64 1, .int .i64 0, .int .i64 0, .int .i64 0, .slice none 0 0, .slice none 0 0, .slice q5 (l.length) d5] 24 (0, 0))) := h6
  have HA6 := Lib.hid (keep g6 HA5.out (by omega))
  have bb6 : Below w.heap.size w W6 := bb5.grown g6 (by omega) (by simp <;> omega)
  have y6 : w.heap.size + 3 ≤ W6.heap.size := by omega
  have vB6 := vB5.grown g6 (by omega)
  clear h6
  obtain ⟨cQ, fQ⟩ := live HQ6.out
  go_wp2_with (with_reducible refine stW 24 ?_)
  refine ⟨stRow rfl 24 (.tmp 2) (.tmp 87) rfl rfl HA6.out (c' := #[.int .i64 1, .int .i64 0, .int .i64 0, .int .i64 0, .slice none 0 0, .slice none 0 0, .slice q5 (l.length) d5]) rfl (by kernel_rfl) rfl (by simp [Value.oneCell']) ?_⟩
  intro W7 z7 h7 g7
  obtain ⟨cA, fA⟩ := live h7
  clear h7
  have bb7 : Below w.heap.size w W7 := bb6.grown g7 (by omega) (by simp)
  go_wp2
  exact bodyPost_ret (v := .tuple #[.agg #[.int .i64 1, .int .i64 0, .int .i64 0, .int .i64 0, .slice none 0 0, .slice none 0 0, .slice q5 (l.length) d5], .int .i64 0]) (by simp [results, Tryd.results13, go_sem, cA]) rfl ⟨_, _, _, _, _, _, _, _, _, rfl, bb7, (VA.nil _ _), (VA.nil _ _), ((vB6.grown g7 (by omega)).low (by omega))⟩

set_option maxHeartbeats 2000000 in
set_option maxRecDepth 100000 in
theorem asked_2 (p : Option Addr) (c : Nat) (l : List UInt8) (w : World) (hv : View w (.slice p 41 c) 41 1 (bv (2 :: l))) (hm : 41 = l.length + 1) :
    Calls Tryd.prog 13 #[.slice p 41 c] w fun e w' => ∃ pk nk ck ph nh ch pb nb cb, e = .returned (.tuple #[.agg #[.int .i64 2, .int .i64 (wrap64 (numLE (((2 :: l : List UInt8).drop 33).take 8))), .int .i64 0, .int .i64 0, .slice pk nk ck, .slice ph nh ch, .slice pb nb cb], .int .i64 0]) ∧ Below w.heap.size w w' ∧
        VA w' (.slice pk nk ck) nk (((2 :: l : List UInt8).drop 1).take 32) w.heap.size ∧ VA w' (.slice ph nh ch) nh [] w.heap.size ∧ VA w' (.slice pb nb cb) nb [] w.heap.size := by
  have hm' := Lib.hid hm
  clear hm
  go_enter Tryd.func13, Tryd.ntmps13
  go_wp2_with (with_reducible refine stAl 24 ?_)
  refine ⟨al rfl 24 rfl (z := .agg #[.int .i64 0, .int .i64 0, .int .i64 0, .int .i64 0, .slice none 0 0, .slice none 0 0, .slice none 0 0]) (by kernel_rfl) ?_⟩
  intro W1 z1 h1 b1
  simp only [Value.cells] at h1
  have HA1 := Lib.hid h1
  clear h1
  go_wp2_with (with_reducible refine stAl 24 ?_)
  refine ⟨al rfl 24 rfl (z := .agg #[.int .i64 0, .int .i64 0, .int .i64 0, .int .i64 0, .slice none 0 0, .slice none 0 0, .slice none 0 0]) (by kernel_rfl) ?_⟩
  intro W2 z2 h2 b2
  simp only [Value.cells] at h2
  rw [z1] at h2 b2
  have HA2 := Lib.hid ((b2.block w.heap.size (by omega)).trans HA1.out)
  have bb2 : Below w.heap.size w W2 := b1.trans (b2.mono (by omega))
  obtain ⟨cN, fN⟩ := live h2
  clear h2 HA1
  go_wp2_with (first | go_skip | (with_reducible refine stIg 22 ?_))
  refine ⟨idx sk22 rfl (.tmp 17) (.const (.int .i64 0)) rfl rfl (hv.below bb2) rfl 0 rfl (by omega) ?_⟩
  intro b' off' hc' hb'
  have hc1 : W2.cell? ⟨b', off', none⟩ = some (.int .u8 2) := by
    have := hc' 0 (.int .u8 2) rfl
    simpa using this
  clear hc' hb'
  go_wp2_with (first | go_skip | (go_at_call 17; go_in) | (with_reducible refine stAl 24 ?_))
  have y2 : W2.heap.size = w.heap.size + 2 := by omega
  refine ⟨al rfl 24 rfl (z := .agg #[.int .i64 0, .int .i64 0, .int .i64 0, .int .i64 0, .slice none 0 0, .slice none 0 0, .slice none 0 0]) (by kernel_rfl) ?_⟩
  intro W3 z3 h3 b3
  simp only [Value.cells] at h3
  rw [y2] at h3 b3
  have HA3 := Lib.hid ((b3.block w.heap.size (by omega)).trans HA2.out)
  have bb3 : Below w.heap.size w W3 := bb2.trans (b3.mono (by omega))
  clear cN fN hc1 HA2
  go_wp2_with (with_reducible refine stW 24 ?_)
  refine ⟨stRow rfl 24 (.tmp 7) (.tmp 38) rfl rfl h3 rfl (by kernel_rfl) rfl (by simp [Value.oneCell']) ?_⟩
  clear h3
  intro W4 z4 h4 g4
  have HQ4 : Hid (W4.heap[w.heap.size + 2]? = some (.cells #[.int .i64 2, .int .i64 0, .int .i64 0, .int .i64 0, .slice none 0 0, .slice none 0 0, .slice none 0 0] 24 (0, 0))) := h4
  have HA4 := Lib.hid (keep g4 HA3.out (by omega))
  have bb4 : Below w.heap.size w W4 := bb3.grown g4 (by omega) (by simp <;> omega)
  have y4 : w.heap.size + 3 ≤ W4.heap.size := by omega
  clear h4 HA3 g4 b3 bb3 bb2 b2 b1 z1 z2 z3 z4
  go_wp2_with (first | (go_at_call 22; with_reducible refine stK ?_) | (go_at_call 23; with_reducible refine stK ?_))
  refine ⟨(cut_spec _ _ _ (2 :: l) 1 32 _ (hv.below bb4) (by have := hm'.out; omega) (by have := hm'.out; omega)).mono ?_⟩
  rintro e W5 ⟨q5, d5, rfl, ho5, hb5⟩
  have HA5 := Lib.hid ((hb5.block _ (by omega)).trans HA4.out)
  have HQ5 := Lib.hid ((hb5.block _ (by omega)).trans HQ4.out)
  have bb5 : Below w.heap.size w W5 := bb4.trans (hb5.mono (by omega))
  have y5 : w.heap.size + 3 ≤ W5.heap.size := by have := hb5.size; omega
  have vK5 := (VA.own ho5).low y4
  go_wp2_with (with_reducible refine stW 22 ?_)
  refine ⟨stCell rfl 22 (.tmp 53) (.tmp 52) rfl rfl HQ5.out (v := .slice q5 (32) d5) rfl rfl (by kernel_rfl) (by simp) ?_⟩
  intro W6 z6 h6 g6
  have HQ6 : Hid (W6.heap[w.heap.size + 2]? = some (.cells #[.int .i64 2, .int .i64 0, .int .i64 0, .int .i64 0, .slice q5 (32) d5, .slice none 0 0, .slice none 0 0] 24 (0, 0))) := h6
  have HA6 := Lib.hid (keep g6 HA5.out (by omega))
  have bb6 : Below w.heap.size w W6 := bb5.grown g6 (by omega) (by simp <;> omega)
  have y6 : w.heap.size + 3 ≤ W6.heap.size := by omega
  have vK6 := vK5.grown g6 (by omega)
  clear h6
  go_wp2_with (first | (go_at_call 22; with_reducible refine stK ?_) | (go_at_call 23; with_reducible refine stK ?_))
  refine ⟨(High_spec _ _ _ (2 :: l) 33 8 _ (hv.below bb6) (by have := hm'.out; omega) (by omega)).mono ?_⟩
  rintro e W7 ⟨rfl, hw7⟩
  subst hw7
  go_wp2_with (with_reducible refine stW 3 ?_)
  refine ⟨stCell rfl 3 (.tmp 56) (.tmp 55) rfl rfl HQ6.out (v := .int .i64 (wrap64 (numLE (((2 :: l : List UInt8).drop 33).take 8)))) rfl rfl (by kernel_rfl) (by simp) ?_⟩
  intro W8 z8 h8 g8
  have HQ8 : Hid (W8.heap[w.heap.size + 2]? = some (.cells #[.int .i64 2, .int .i64 (wrap64 (numLE (((2 :: l : List UInt8).drop 33).take 8))), .int .i64 0, .int .i64 0, .slice q5 (32) d5, .slice none 0 0, .slice none 0 0] 24 (0, 0))) := h8
  have HA8 := Lib.hid (keep g8 HA6.out (by omega))
  have bb8 : Below w.heap.size w W8 := bb6.grown g8 (by omega) (by simp <;> omega)
  have y8 : w.heap.size + 3 ≤ W8.heap.size := by omega
  have vK8 := vK6.grown g8 (by omega)
  clear h8
  obtain ⟨cQ, fQ⟩ := live HQ8.out
  go_wp2_with (with_reducible refine stW 24 ?_)
  refine ⟨stRow rfl 24 (.tmp 2) (.tmp 87) rfl rfl HA8.out (c' := #[.int .i64 2, .int .i64 (wrap64 (numLE (((2 :: l : List UInt8).drop 33).take 8))), .int .i64 0, .int .i64 0, .slice q5 (32) d5, .slice none 0 0, .slice none 0 0]) rfl (by kernel_rfl) rfl (by simp [Value.oneCell']) ?_⟩
  intro W9 z9 h9 g9
  obtain ⟨cA, fA⟩ := live h9
  clear h9
  have bb9 : Below w.heap.size w W9 := bb8.grown g9 (by omega) (by simp)
  go_wp2
  exact bodyPost_ret (v := .tuple #[.agg #[.int .i64 2, .int .i64 (wrap64 (numLE (((2 :: l : List UInt8).drop 33).take 8))), .int .i64 0, .int .i64 0, .slice q5 (32) d5, .slice none 0 0, .slice none 0 0], .int .i64 0]) (by simp [results, Tryd.results13, go_sem, cA]) rfl ⟨_, _, _, _, _, _, _, _, _, rfl, bb9, ((vK8.grown g9 (by omega)).low (by omega)), (VA.nil _ _), (VA.nil _ _)⟩

set_option maxHeartbeats 2000000 in
set_option maxRecDepth 100000 in
theorem asked_3 (p : Option Addr) (c : Nat) (l : List UInt8) (w : World) (hv : View w (.slice p 9 c) 9 1 (bv (3 :: l))) (hm : 9 = l.length + 1) :
    Calls Tryd.prog 13 #[.slice p 9 c] w fun e w' => ∃ pk nk ck ph nh ch pb nb cb, e = .returned (.tuple #[.agg #[.int .i64 3, .int .i64 (wrap64 (numLE (((3 :: l : List UInt8).drop 1).take 8))), .int .i64 0, .int .i64 0, .slice pk nk ck, .slice ph nh ch, .slice pb nb cb], .int .i64 0]) ∧ Below w.heap.size w w' ∧
        VA w' (.slice pk nk ck) nk [] w.heap.size ∧ VA w' (.slice ph nh ch) nh [] w.heap.size ∧ VA w' (.slice pb nb cb) nb [] w.heap.size := by
  have hm' := Lib.hid hm
  clear hm
  go_enter Tryd.func13, Tryd.ntmps13
  go_wp2_with (with_reducible refine stAl 24 ?_)
  refine ⟨al rfl 24 rfl (z := .agg #[.int .i64 0, .int .i64 0, .int .i64 0, .int .i64 0, .slice none 0 0, .slice none 0 0, .slice none 0 0]) (by kernel_rfl) ?_⟩
  intro W1 z1 h1 b1
  simp only [Value.cells] at h1
  have HA1 := Lib.hid h1
  clear h1
  go_wp2_with (with_reducible refine stAl 24 ?_)
  refine ⟨al rfl 24 rfl (z := .agg #[.int .i64 0, .int .i64 0, .int .i64 0, .int .i64 0, .slice none 0 0, .slice none 0 0, .slice none 0 0]) (by kernel_rfl) ?_⟩
  intro W2 z2 h2 b2
  simp only [Value.cells] at h2
  rw [z1] at h2 b2
  have HA2 := Lib.hid ((b2.block w.heap.size (by omega)).trans HA1.out)
  have bb2 : Below w.heap.size w W2 := b1.trans (b2.mono (by omega))
  obtain ⟨cN, fN⟩ := live h2
  clear h2 HA1
  go_wp2_with (first | go_skip | (with_reducible refine stIg 22 ?_))
  refine ⟨idx sk22 rfl (.tmp 17) (.const (.int .i64 0)) rfl rfl (hv.below bb2) rfl 0 rfl (by omega) ?_⟩
  intro b' off' hc' hb'
  have hc1 : W2.cell? ⟨b', off', none⟩ = some (.int .u8 3) := by
    have := hc' 0 (.int .u8 3) rfl
    simpa using this
  clear hc' hb'
  go_wp2_with (first | go_skip | (go_at_call 17; go_in) | (with_reducible refine stAl 24 ?_))
  have y2 : W2.heap.size = w.heap.size + 2 := by omega
  refine ⟨al rfl 24 rfl (z := .agg #[.int .i64 0, .int .i64 0, .int .i64 0, .int .i64 0, .slice none 0 0, .slice none 0 0, .slice none 0 0]) (by kernel_rfl) ?_⟩
  intro W3 z3 h3 b3
  simp only [Value.cells] at h3
  rw [y2] at h3 b3
  have HA3 := Lib.hid ((b3.block w.heap.size (by omega)).trans HA2.out)
  have bb3 : Below w.heap.size w W3 := bb2.trans (b3.mono (by omega))
  clear cN fN hc1 HA2
  go_wp2_with (with_reducible refine stW 24 ?_)
  refine ⟨stRow rfl 24 (.tmp 7) (.tmp 38) rfl rfl h3 rfl (by kernel_rfl) rfl (by simp [Value.oneCell']) ?_⟩
  clear h3
  intro W4 z4 h4 g4
  have HQ4 : Hid (W4.heap[w.heap.size + 2]? = some (.cells #[.int .i64 3, .int .i64 0, .int .i64 0, .int .i64 0, .slice none 0 0, .slice none 0 0, .slice none 0 0] 24 (0, 0))) := h4
  have HA4 := Lib.hid (keep g4 HA3.out (by omega))
  have bb4 : Below w.heap.size w W4 := bb3.grown g4 (by omega) (by simp <;> omega)
  have y4 : w.heap.size + 3 ≤ W4.heap.size := by omega
  clear h4 HA3 g4 b3 bb3 bb2 b2 b1 z1 z2 z3 z4
  go_wp2_with (first | (go_at_call 22; with_reducible refine stK ?_) | (go_at_call 23; with_reducible refine stK ?_))
  refine ⟨(High_spec _ _ _ (3 :: l) 1 8 _ (hv.below bb4) (by have := hm'.out; omega) (by omega)).mono ?_⟩
  rintro e W5 ⟨rfl, hw5⟩
  subst hw5
  go_wp2_with (with_reducible refine stW 3 ?_)
  refine ⟨stCell rfl 3 (.tmp 61) (.tmp 60) rfl rfl HQ4.out (v := .int .i64 (wrap64 (numLE (((3 :: l : List UInt8).drop 1).take 8)))) rfl rfl (by kernel_rfl) (by simp) ?_⟩
  intro W6 z6 h6 g6
  have HQ6 : Hid (W6.heap[w.heap.size + 2]? = some (.cells #[.int .i64 3, .int .i64 (wrap64 (numLE (((3 :: l : List UInt8).drop 1).take 8))), .int .i64 0, .int .i64 0, .slice none 0 0, .slice none 0 0, .slice none 0 0] 24 (0, 0))) := h6
  have HA6 := Lib.hid (keep g6 HA4.out (by omega))
  have bb6 : Below w.heap.size w W6 := bb4.grown g6 (by omega) (by simp <;> omega)
  have y6 : w.heap.size + 3 ≤ W6.heap.size := by omega
  clear h6
  obtain ⟨cQ, fQ⟩ := live HQ6.out
  go_wp2_with (with_reducible refine stW 24 ?_)
  refine ⟨stRow rfl 24 (.tmp 2) (.tmp 87) rfl rfl HA6.out (c' := #[.int .i64 3, .int .i64 (wrap64 (numLE (((3 :: l : List UInt8).drop 1).take 8))), .int .i64 0, .int .i64 0, .slice none 0 0, .slice none 0 0, .slice none 0 0]) rfl (by kernel_rfl) rfl (by simp [Value.oneCell']) ?_⟩
  intro W7 z7 h7 g7
  obtain ⟨cA, fA⟩ := live h7
  clear h7
  have bb7 : Below w.heap.size w W7 := bb6.grown g7 (by omega) (by simp)
  go_wp2
  exact bodyPost_ret (v := .tuple #[.agg #[.int .i64 3, .int .i64 (wrap64 (numLE (((3 :: l : List UInt8).drop 1).take 8))), .int .i64 0, .int .i64 0, .slice none 0 0, .slice none 0 0, .slice none 0 0], .int .i64 0]) (by simp [results, Tryd.results13, go_sem, cA]) rfl ⟨_, _, _, _, _, _, _, _, _, rfl, bb7, (VA.nil _ _), (VA.nil _ _), (VA.nil _ _)⟩

set_option maxHeartbeats 2000000 in
set_option maxRecDepth 100000 in
theorem asked_4 (p : Option Addr) (c : Nat) (l : List UInt8) (w : World) (hv : View w (.slice p 41 c) 41 1 (bv (4 :: l))) (hm : 41 = l.length + 1) :
    Calls Tryd.prog 13 #[.slice p 41 c] w fun e w' => ∃ pk nk ck ph nh ch pb nb cb, e = .returned (.tuple #[.agg #[.int .i64 4, .int .i64 (wrap64 (numLE (((4 :: l : List UInt8).drop 33).take 8))), .int .i64 0, .int .i64 0, .slice pk nk ck, .slice ph nh ch, .slice pb nb cb], .int .i64 0]) ∧ Below w.heap.size w w' ∧
        VA w' (.slice pk nk ck) nk (((4 :: l : List UInt8).drop 1).take 32) w.heap.size ∧ VA w' (.slice ph nh ch) nh [] w.heap.size ∧ VA w' (.slice pb nb cb) nb [] w.heap.size := by
  have hm' := Lib.hid hm
  clear hm
  go_enter Tryd.func13, Tryd.ntmps13
  go_wp2_with (with_reducible refine stAl 24 ?_)
  refine ⟨al rfl 24 rfl (z := .agg #[.int .i64 0, .int .i64 0, .int .i64 0, .int .i64 0, .slice none 0 0, .slice none 0 0, .slice none 0 0]) (by kernel_rfl) ?_⟩
  intro W1 z1 h1 b1
  simp only [Value.cells] at h1
  have HA1 := Lib.hid h1
  clear h1
  go_wp2_with (with_reducible refine stAl 24 ?_)
  refine ⟨al rfl 24 rfl (z := .agg #[.int .i64 0, .int .i64 0, .int .i64 0, .int .i64 0, .slice none 0 0, .slice none 0 0, .slice none 0 0]) (by kernel_rfl) ?_⟩
  intro W2 z2 h2 b2
  simp only [Value.cells] at h2
  rw [z1] at h2 b2
  have HA2 := Lib.hid ((b2.block w.heap.size (by omega)).trans HA1.out)
  have bb2 : Below w.heap.size w W2 := b1.trans (b2.mono (by omega))
  obtain ⟨cN, fN⟩ := live h2
  clear h2 HA1
  go_wp2_with (first | go_skip | (with_reducible refine stIg 22 ?_))
  refine ⟨idx sk22 rfl (.tmp 17) (.const (.int .i64 0)) rfl rfl (hv.below bb2) rfl 0 rfl (by omega) ?_⟩
  intro b' off' hc' hb'
  have hc1 : W2.cell? ⟨b', off', none⟩ = some (.int .u8 4) := by
    have := hc' 0 (.int .u8 4) rfl
    simpa using this
  clear hc' hb'
  go_wp2_with (first | go_skip | (go_at_call 17; go_in) | (with_reducible refine stAl 24 ?_))
  have y2 : W2.heap.size = w.heap.size + 2 := by omega
  refine ⟨al rfl 24 rfl (z := .agg #[.int .i64 0, .int .i64 0, .int .i64 0, .int .i64 0, .slice none 0 0, .slice none 0 0, .slice none 0 0]) (by kernel_rfl) ?_⟩
  intro W3 z3 h3 b3
  simp only [Value.cells] at h3
  rw [y2] at h3 b3
  have HA3 := Lib.hid ((b3.block w.heap.size (by omega)).trans HA2.out)
  have bb3 : Below w.heap.size w W3 := bb2.trans (b3.mono (by omega))
  clear cN fN hc1 HA2
  go_wp2_with (with_reducible refine stW 24 ?_)
  refine ⟨stRow rfl 24 (.tmp 7) (.tmp 38) rfl rfl h3 rfl (by kernel_rfl) rfl (by simp [Value.oneCell']) ?_⟩
  clear h3
  intro W4 z4 h4 g4
  have HQ4 : Hid (W4.heap[w.heap.size + 2]? = some (.cells #[.int .i64 4, .int .i64 0, .int .i64 0, .int .i64 0, .slice none 0 0, .slice none 0 0, .slice none 0 0] 24 (0, 0))) := h4
  have HA4 := Lib.hid (keep g4 HA3.out (by omega))
  have bb4 : Below w.heap.size w W4 := bb3.grown g4 (by omega) (by simp <;> omega)
  have y4 : w.heap.size + 3 ≤ W4.heap.size := by omega
  clear h4 HA3 g4 b3 bb3 bb2 b2 b1 z1 z2 z3 z4
  go_wp2_with (first | (go_at_call 22; with_reducible refine stK ?_) | (go_at_call 23; with_reducible refine stK ?_))
  refine ⟨(cut_spec _ _ _ (4 :: l) 1 32 _ (hv.below bb4) (by have := hm'.out; omega) (by have := hm'.out; omega)).mono ?_⟩
  rintro e W5 ⟨q5, d5, rfl, ho5, hb5⟩
  have HA5 := Lib.hid ((hb5.block _ (by omega)).trans HA4.out)
  have HQ5 := Lib.hid ((hb5.block _ (by omega)).trans HQ4.out)
  have bb5 : Below w.heap.size w W5 := bb4.trans (hb5.mono (by omega))
  have y5 : w.heap.size + 3 ≤ W5.heap.size := by have := hb5.size; omega
  have vK5 := (VA.own ho5).low y4
  go_wp2_with (with_reducible refine stW 22 ?_)
  refine ⟨stCell rfl 22 (.tmp 53) (.tmp 52) rfl rfl HQ5.out (v := .slice q5 (32) d5) rfl rfl (by kernel_rfl) (by simp) ?_⟩
  intro W6 z6 h6 g6
  have HQ6 : Hid (W6.heap[w.heap.size + 2]? = some (.cells #[.int .i64 4, .int .i64 0, .int .i64 0, .int .i64 0, .slice q5 (32) d5, .slice none 0 0, .slice none 0 0] 24 (0, 0))) := h6
  have HA6 := Lib.hid (keep g6 HA5.out (by omega))
  have bb6 : Below w.heap.size w W6 := bb5.grown g6 (by omega) (by simp <;> omega)
  have y6 : w.heap.size + 3 ≤ W6.heap.size := by omega
  have vK6 := vK5.grown g6 (by omega)
  clear h6
  go_wp2_with (first | (go_at_call 22; with_reducible refine stK ?_) | (go_at_call 23; with_reducible refine stK ?_))
  refine ⟨(High_spec _ _ _ (4 :: l) 33 8 _ (hv.below bb6) (by have := hm'.out; omega) (by omega)).mono ?_⟩
  rintro e W7 ⟨rfl, hw7⟩
  subst hw7
  go_wp2_with (with_reducible refine stW 3 ?_)
  refine ⟨stCell rfl 3 (.tmp 56) (.tmp 55) rfl rfl HQ6.out (v := .int .i64 (wrap64 (numLE (((4 :: l : List UInt8).drop 33).take 8)))) rfl rfl (by kernel_rfl) (by simp) ?_⟩
  intro W8 z8 h8 g8
  have HQ8 : Hid (W8.heap[w.heap.size + 2]? = some (.cells #[.int .i64 4, .int .i64 (wrap64 (numLE (((4 :: l : List UInt8).drop 33).take 8))), .int .i64 0, .int .i64 0, .slice q5 (32) d5, .slice none 0 0, .slice none 0 0] 24 (0, 0))) := h8
  have HA8 := Lib.hid (keep g8 HA6.out (by omega))
  have bb8 : Below w.heap.size w W8 := bb6.grown g8 (by omega) (by simp <;> omega)
  have y8 : w.heap.size + 3 ≤ W8.heap.size := by omega
  have vK8 := vK6.grown g8 (by omega)
  clear h8
  obtain ⟨cQ, fQ⟩ := live HQ8.out
  go_wp2_with (with_reducible refine stW 24 ?_)
  refine ⟨stRow rfl 24 (.tmp 2) (.tmp 87) rfl rfl HA8.out (c' := #[.int .i64 4, .int .i64 (wrap64 (numLE (((4 :: l : List UInt8).drop 33).take 8))), .int .i64 0, .int .i64 0, .slice q5 (32) d5, .slice none 0 0, .slice none 0 0]) rfl (by kernel_rfl) rfl (by simp [Value.oneCell']) ?_⟩
  intro W9 z9 h9 g9
  obtain ⟨cA, fA⟩ := live h9
  clear h9
  have bb9 : Below w.heap.size w W9 := bb8.grown g9 (by omega) (by simp)
  go_wp2
  exact bodyPost_ret (v := .tuple #[.agg #[.int .i64 4, .int .i64 (wrap64 (numLE (((4 :: l : List UInt8).drop 33).take 8))), .int .i64 0, .int .i64 0, .slice q5 (32) d5, .slice none 0 0, .slice none 0 0], .int .i64 0]) (by simp [results, Tryd.results13, go_sem, cA]) rfl ⟨_, _, _, _, _, _, _, _, _, rfl, bb9, ((vK8.grown g9 (by omega)).low (by omega)), (VA.nil _ _), (VA.nil _ _)⟩

set_option maxHeartbeats 2000000 in
set_option maxRecDepth 100000 in
theorem asked_5 (p : Option Addr) (c : Nat) (l : List UInt8) (w : World) (hv : View w (.slice p 73 c) 73 1 (bv (5 :: l))) (hm : 73 = l.length + 1) :
    Calls Tryd.prog 13 #[.slice p 73 c] w fun e w' => ∃ pk nk ck ph nh ch pb nb cb, e = .returned (.tuple #[.agg #[.int .i64 5, .int .i64 (wrap64 (numLE (((5 :: l : List UInt8).drop 65).take 8))), .int .i64 0, .int .i64 0, .slice pk nk ck, .slice ph nh ch, .slice pb nb cb], .int .i64 0]) ∧ Below w.heap.size w w' ∧
        VA w' (.slice pk nk ck) nk (((5 :: l : List UInt8).drop 1).take 32) w.heap.size ∧ VA w' (.slice ph nh ch) nh (((5 :: l : List UInt8).drop 33).take 32) w.heap.size ∧ VA w' (.slice pb nb cb) nb [] w.heap.size := by
  have hm' := Lib.hid hm
  clear hm
  go_enter Tryd.func13, Tryd.ntmps13
  go_wp2_with (with_reducible refine stAl 24 ?_)
  refine ⟨al rfl 24 rfl (z := .agg #[.int .i64 0, .int .i64 0, .int .i64 0, .int .i64 0, .slice none 0 0, .slice none 0 0, .slice none 0 0]) (by kernel_rfl) ?_⟩
  intro W1 z1 h1 b1
  simp only [Value.cells] at h1
  have HA1 := Lib.hid h1
  clear h1
  go_wp2_with (with_reducible refine stAl 24 ?_)
  refine ⟨al rfl 24 rfl (z := .agg #[.int .i64 0, .int .i64 0, .int .i64 0, .int .i64 0, .slice none 0 0, .slice none 0 0, .slice none 0 0]) (by kernel_rfl) ?_⟩
  intro W2 z2 h2 b2
  simp only [Value.cells] at h2
  rw [z1] at h2 b2
  have HA2 := Lib.hid ((b2.block w.heap.size (by omega)).trans HA1.out)
  have bb2 : Below w.heap.size w W2 := b1.trans (b2.mono (by omega))
  obtain ⟨cN, fN⟩ := live h2
  clear h2 HA1
  go_wp2_with (first | go_skip | (with_reducible refine stIg 22 ?_))
  refine ⟨idx sk22 rfl (.tmp 17) (.const (.int .i64 0)) rfl rfl (hv.below bb2) rfl 0 rfl (by omega) ?_⟩
  intro b' off' hc' hb'
  have hc1 : W2.cell? ⟨b', off', none⟩ = some (.int .u8 5) := by
    have := hc' 0 (.int .u8 5) rfl
    simpa using this
  clear hc' hb'
  go_wp2_with (first | go_skip | (go_at_call 17; go_in) | (with_reducible refine stAl 24 ?_))
  have y2 : W2.heap.size = w.heap.size + 2 := by omega
  refine ⟨al rfl 24 rfl (z := .agg #[.int .i64 0, .int .i64 0, .int .i64 0, .int .i64 0, .slice none 0 0, .slice none 0 0, .slice none 0 0]) (by kernel_rfl) ?_⟩
  intro W3 z3 h3 b3
  simp only [Value.cells] at h3
  rw [y2] at h3 b3
  have HA3 := Lib.hid ((b3.block w.heap.size (by omega)).trans HA2.out)
  have bb3 : Below w.heap.size w W3 := bb2.trans (b3.mono (by omega))
  clear cN fN hc1 HA2
  go_wp2_with (with_reducible refine stW 24 ?_)
  refine ⟨stRow rfl 24 (.tmp 7) (.tmp 38) rfl rfl h3 rfl (by kernel_rfl) rfl (by simp [Value.oneCell']) ?_⟩
  clear h3
  intro W4 z4 h4 g4
  have HQ4 : Hid (W4.heap[w.heap.size + 2]? = some (.cells #[.int .i64 5, .int .i64 0, .int .i64 0, .int .i64 0, .slice none 0 0, .slice none 0 0, .slice none 0 0] 24 (0, 0))) := h4
  have HA4 := Lib.hid (keep g4 HA3.out (by omega))
  have bb4 : Below w.heap.size w W4 := bb3.grown g4 (by omega) (by simp <;> omega)
  have y4 : w.heap.size + 3 ≤ W4.heap.size := by omega
  clear h4 HA3 g4 b3 bb3 bb2 b2 b1 z1 z2 z3 z4
  go_wp2_with (first | (go_at_call 22; with_reducible refine stK ?_) | (go_at_call 23; with_reducible refine stK ?_))
  refine ⟨(cut_spec _ _ _ (5 :: l) 1 32 _ (hv.below bb4) (by have := hm'.out; omega) (by have := hm'.out; omega)).mono ?_⟩
  rintro e W5 ⟨q5, d5, rfl, ho5, hb5⟩
  have HA5 := Lib.hid ((hb5.block _ (by omega)).trans HA4.out)
  have HQ5 := Lib.hid ((hb5.block _ (by omega)).trans HQ4.out)
  have bb5 : Below w.heap.size w W5 := bb4.trans (hb5.mono (by omega))
  have y5 : w.heap.size + 3 ≤ W5.heap.size := by have := hb5.size; omega
  have vK5 := (VA.own ho5).low y4
  go_wp2_with (with_reducible refine stW 22 ?_)
  refine ⟨stCell rfl 22 (.tmp 67) (.tmp 66) rfl rfl HQ5.out (v := .slice q5 (32) d5) rfl rfl (by kernel_rfl) (by simp) ?_⟩
  intro W6 z6 h6 g6
  have HQ6 : Hid (W6.heap[w.heap.size + 2]? = some (.cells #[.int .i64 5, .int .i64 0, .int .i64 0, .int .i64 0, .slice q5 (32) d5, .slice none 0 0, .slice none 0 0] 24 (0, 0))) := h6
  have HA6 := Lib.hid (keep g6 HA5.out (by omega))
  have bb6 : Below w.heap.size w W6 := bb5.grown g6 (by omega) (by simp <;> omega)
  have y6 : w.heap.size + 3 ≤ W6.heap.size := by omega
  have vK6 := vK5.grown g6 (by omega)
  clear h6
  go_wp2_with (first | (go_at_call 22; with_reducible refine stK ?_) | (go_at_call 23; with_reducible refine stK ?_))
  refine ⟨(cut_spec _ _ _ (5 :: l) 33 32 _ (hv.below bb6) (by have := hm'.out; omega) (by have := hm'.out; omega)).mono ?_⟩
  rintro e W7 ⟨q7, d7, rfl, ho7, hb7⟩
  have HA7 := Lib.hid ((hb7.block _ (by omega)).trans HA6.out)
  have HQ7 := Lib.hid ((hb7.block _ (by omega)).trans HQ6.out)
  have bb7 : Below w.heap.size w W7 := bb6.trans (hb7.mono (by omega))
  have y7 : w.heap.size + 3 ≤ W7.heap.size := by have := hb7.size; omega
  have vK7 := vK6.below hb7
  have vH7 := (VA.own ho7).low y6
  go_wp2_with (with_reducible refine stW 22 ?_)
  refine ⟨stCell rfl 22 (.tmp 70) (.tmp 69) rfl rfl HQ7.out (v := .slice q7 (32) d7) rfl rfl (by kernel_rfl) (by simp) ?_⟩
  intro W8 z8 h8 g8
  have HQ8 : Hid (W8.heap[w.heap.size + 2]? = some (.cells #[.int .i64 5, .int .i64 0, .int .i64 0, .int .i64 0, .slice q5 (32) d5, .slice q7 (32) d7, .slice none 0 0] 24 (0, 0))) := h8
  have HA8 := Lib.hid (keep g8 HA7.out (by omega))
  have bb8 : Below w.heap.size w W8 := bb7.grown g8 (by omega) (by simp <;> omega)
  have y8 : w.heap.size + 3 ≤ W8.heap.size := by omega
  have vK8 := vK7.grown g8 (by omega)
  have vH8 := vH7.grown g8 (by omega)
  clear h8
  go_wp2_with (first | (go_at_call 22; with_reducible refine stK ?_) | (go_at_call 23; with_reducible refine stK ?_))
  refine ⟨(High_spec _ _ _ (5 :: l) 65 8 _ (hv.below bb8) (by have := hm'.out; omega) (by omega)).mono ?_⟩
  rintro e W9 ⟨rfl, hw9⟩
  subst hw9
  go_wp2_with (with_reducible refine stW 3 ?_)
  refine ⟨stCell rfl 3 (.tmp 73) (.tmp 72) rfl rfl HQ8.out (v := .int .i64 (wrap64 (numLE (((5 :: l : List UInt8).drop 65).take 8)))) rfl rfl (by kernel_rfl) (by simp) ?_⟩
  intro W10 z10 h10 g10
  have HQ10 : Hid (W10.heap[w.heap.size + 2]? = some (.cells #[.int .i64 5, .int .i64 (wrap64 (numLE (((5 :: l : List UInt8).drop 65).take 8))), .int .i64 0, .int .i64 0, .slice q5 (32) d5, .slice q7 (32) d7, .slice none 0 0] 24 (0, 0))) := h10
  have HA10 := Lib.hid (keep g10 HA8.out (by omega))
  have bb10 : Below w.heap.size w W10 := bb8.grown g10 (by omega) (by simp <;> omega)
  have y10 : w.heap.size + 3 ≤ W10.heap.size := by omega
  have vK10 := vK8.grown g10 (by omega)
  have vH10 := vH8.grown g10 (by omega)
  clear h10
  obtain ⟨cQ, fQ⟩ := live HQ10.out
  go_wp2_with (with_reducible refine stW 24 ?_)
  refine ⟨stRow rfl 24 (.tmp 2) (.tmp 87) rfl rfl HA10.out (c' := #[.int .i64 5, .int .i64 (wrap64 (numLE (((5 :: l : List UInt8).drop 65).take 8))), .int .i64 0, .int .i64 0, .slice q5 (32) d5, .slice q7 (32) d7, .slice none 0 0]) rfl (by kernel_rfl) rfl (by simp [Value.oneCell']) ?_⟩
  intro W11 z11 h11 g11
  obtain ⟨cA, fA⟩ := live h11
  clear h11
  have bb11 : Below w.heap.size w W11 := bb10.grown g11 (by omega) (by simp)
  go_wp2
  exact bodyPost_ret (v := .tuple #[.agg #[.int .i64 5, .int .i64 (wrap64 (numLE (((5 :: l : List UInt8).drop 65).take 8))), .int .i64 0, .int .i64 0, .slice q5 (32) d5, .slice q7 (32) d7, .slice none 0 0], .int .i64 0]) (by simp [results, Tryd.results13, go_sem, cA]) rfl ⟨_, _, _, _, _, _, _, _, _, rfl, bb11, ((vK10.grown g11 (by omega)).low (by omega)), ((vH10.grown g11 (by omega)).low (by omega)), (VA.nil _ _)⟩

set_option maxHeartbeats 2000000 in
set_option maxRecDepth 100000 in
theorem asked_6 (p : Option Addr) (c : Nat) (l : List UInt8) (w : World) (hv : View w (.slice p 77 c) 77 1 (bv (6 :: l))) (hm : 77 = l.length + 1) :
    Calls Tryd.prog 13 #[.slice p 77 c] w fun e w' => ∃ pk nk ck ph nh ch pb nb cb, e = .returned (.tuple #[.agg #[.int .i64 6, .int .i64 (wrap64 (numLE (((6 :: l : List UInt8).drop 65).take 8))), .int .i64 0, .int .i64 (wrap64 (numLE (((6 :: l : List UInt8).drop 73).take 4))), .slice pk nk ck, .slice ph nh ch, .slice pb nb cb], .int .i64 0]) ∧ Below w.heap.size w w' ∧
        VA w' (.slice pk nk ck) nk (((6 :: l : List UInt8).drop 1).take 32) w.heap.size ∧ VA w' (.slice ph nh ch) nh (((6 :: l : List UInt8).drop 33).take 32) w.heap.size ∧ VA w' (.slice pb nb cb) nb [] w.heap.size := by
  have hm' := Lib.hid hm
  clear hm
  go_enter Tryd.func13, Tryd.ntmps13
  go_wp2_with (with_reducible refine stAl 24 ?_)
  refine ⟨al rfl 24 rfl (z := .agg #[.int .i64 0, .int .i64 0, .int .i64 0, .int .i64 0, .slice none 0 0, .slice none 0 0, .slice none 0 0]) (by kernel_rfl) ?_⟩
  intro W1 z1 h1 b1
  simp only [Value.cells] at h1
  have HA1 := Lib.hid h1
  clear h1
  go_wp2_with (with_reducible refine stAl 24 ?_)
  refine ⟨al rfl 24 rfl (z := .agg #[.int .i64 0, .int .i64 0, .int .i64 0, .int .i64 0, .slice none 0 0, .slice none 0 0, .slice none 0 0]) (by kernel_rfl) ?_⟩
  intro W2 z2 h2 b2
  simp only [Value.cells] at h2
  rw [z1] at h2 b2
  have HA2 := Lib.hid ((b2.block w.heap.size (by omega)).trans HA1.out)
  have bb2 : Below w.heap.size w W2 := b1.trans (b2.mono (by omega))
  obtain ⟨cN, fN⟩ := live h2
  clear h2 HA1
  go_wp2_with (first | go_skip | (with_reducible refine stIg 22 ?_))
  refine ⟨idx sk22 rfl (.tmp 17) (.const (.int .i64 0)) rfl rfl (hv.below bb2) rfl 0 rfl (by omega) ?_⟩
  intro b' off' hc' hb'
  have hc1 : W2.cell? ⟨b', off', none⟩ = some (.int .u8 6) := by
    have := hc' 0 (.int .u8 6) rfl
    simpa using this
  clear hc' hb'
  go_wp2_with (first | go_skip | (go_at_call 17; go_in) | (with_reducible refine stAl 24 ?_))
  have y2 : W2.heap.size = w.heap.size + 2 := by omega
  refine ⟨al rfl 24 rfl (z := .agg #[.int .i64 0, .int .i64 0, .int .i64 0, .int .i64 0, .slice none 0 0, .slice none 0 0, .slice none 0 0]) (by kernel_rfl) ?_⟩
  intro W3 z3 h3 b3
  simp only [Value.cells] at h3
  rw [y2] at h3 b3
  have HA3 := Lib.hid ((b3.block w.heap.size (by omega)).trans HA2.out)
  have bb3 : Below w.heap.size w W3 := bb2.trans (b3.mono (by omega))
  clear cN fN hc1 HA2
  go_wp2_with (with_reducible refine stW 24 ?_)
  refine ⟨stRow rfl 24 (.tmp 7) (.tmp 38) rfl rfl h3 rfl (by kernel_rfl) rfl (by simp [Value.oneCell']) ?_⟩
  clear h3
  intro W4 z4 h4 g4
  have HQ4 : Hid (W4.heap[w.heap.size + 2]? = some (.cells #[.int .i64 6, .int .i64 0, .int .i64 0, .int .i64 0, .slice none 0 0, .slice none 0 0, .slice none 0 0] 24 (0, 0))) := h4
  have HA4 := Lib.hid (keep g4 HA3.out (by omega))
  have bb4 : Below w.heap.size w W4 := bb3.grown g4 (by omega) (by simp <;> omega)
  have y4 : w.heap.size + 3 ≤ W4.heap.size := by omega
  clear h4 HA3 g4 b3 bb3 bb2 b2 b1 z1 z2 z3 z4
  go_wp2_with (first | (go_at_call 22; with_reducible refine stK ?_) | (go_at_call 23; with_reducible refine stK ?_))
  refine ⟨(cut_spec _ _ _ (6 :: l) 1 32 _ (hv.below bb4) (by have := hm'.out; omega) (by have := hm'.out; omega)).mono ?_⟩
  rintro e W5 ⟨q5, d5, rfl, ho5, hb5⟩
  have HA5 := Lib.hid ((hb5.block _ (by omega)).trans HA4.out)
  have HQ5 := Lib.hid ((hb5.block _ (by omega)).trans HQ4.out)
  have bb5 : Below w.heap.size w W5 := bb4.trans (hb5.mono (by omega))
  have y5 : w.heap.size + 3 ≤ W5.heap.size := by have := hb5.size; omega
  have vK5 := (VA.own ho5).low y4
  go_wp2_with (with_reducible refine stW 22 ?_)
  refine ⟨stCell rfl 22 (.tmp 67) (.tmp 66) rfl rfl HQ5.out (v := .slice q5 (32) d5) rfl rfl (by kernel_rfl) (by simp) ?_⟩
  intro W6 z6 h6 g6
  have HQ6 : Hid (W6.heap[w.heap.size + 2]? = some (.cells #[.int .i64 6, .int .i64 0, .int .i64 0, .int .i64 0, .slice q5 (32) d5, .slice none 0 0, .slice none 0 0] 24 (0, 0))) := h6
  have HA6 := Lib.hid (keep g6 HA5.out (by omega))
  have bb6 : Below w.heap.size w W6 := bb5.grown g6 (by omega) (by simp <;> omega)
  have y6 : w.heap.size + 3 ≤ W6.heap.size := by omega
  have vK6 := vK5.grown g6 (by omega)
  clear h6
  go_wp2_with (first | (go_at_call 22; with_reducible refine stK ?_) | (go_at_call 23; with_reducible refine stK ?_))
  refine ⟨(cut_spec _ _ _ (6 :: l) 33 32 _ (hv.below bb6) (by have := hm'.out; omega) (by have := hm'.out; omega)).mono ?_⟩
  rintro e W7 ⟨q7, d7, rfl, ho7, hb7⟩
  have HA7 := Lib.hid ((hb7.block _ (by omega)).trans HA6.out)
  have HQ7 := Lib.hid ((hb7.block _ (by omega)).trans HQ6.out)
  have bb7 : Below w.heap.size w W7 := bb6.trans (hb7.mono (by omega))
  have y7 : w.heap.size + 3 ≤ W7.heap.size := by have := hb7.size; omega
  have vK7 := vK6.below hb7
  have vH7 := (VA.own ho7).low y6
  go_wp2_with (with_reducible refine stW 22 ?_)
  refine ⟨stCell rfl 22 (.tmp 70) (.tmp 69) rfl rfl HQ7.out (v := .slice q7 (32) d7) rfl rfl (by kernel_rfl) (by simp) ?_⟩
  intro W8 z8 h8 g8
  have HQ8 : Hid (W8.heap[w.heap.size + 2]? = some (.cells #[.int .i64 6, .int .i64 0, .int .i64 0, .int .i64 0, .slice q5 (32) d5, .slice q7 (32) d7, .slice none 0 0] 24 (0, 0))) := h8
  have HA8 := Lib.hid (keep g8 HA7.out (by omega))
  have bb8 : Below w.heap.size w W8 := bb7.grown g8 (by omega) (by simp <;> omega)
  have y8 : w.heap.size + 3 ≤ W8.heap.size := by omega
  have vK8 := vK7.grown g8 (by omega)
  have vH8 := vH7.grown g8 (by omega)
  clear h8
  go_wp2_with (first | (go_at_call 22; with_reducible refine stK ?_) | (go_at_call 23; with_reducible refine stK ?_))
  refine ⟨(High_spec _ _ _ (6 :: l) 65 8 _ (hv.below bb8) (by have := hm'.out; omega) (by omega)).mono ?_⟩
  rintro e W9 ⟨rfl, hw9⟩
  subst hw9
  go_wp2_with (with_reducible refine stW 3 ?_)
  refine ⟨stCell rfl 3 (.tmp 73) (.tmp 72) rfl rfl HQ8.out (v := .int .i64 (wrap64 (numLE (((6 :: l : List UInt8).drop 65).take 8)))) rfl rfl (by kernel_rfl) (by simp) ?_⟩
  intro W10 z10 h10 g10
  have HQ10 : Hid (W10.heap[w.heap.size + 2]? = some (.cells #[.int .i64 6, .int .i64 (wrap64 (numLE (((6 :: l : List UInt8).drop 65).take 8))), .int .i64 0, .int .i64 0, .slice q5 (32) d5, .slice q7 (32) d7, .slice none 0 0] 24 (0, 0))) := h10
  have HA10 := Lib.hid (keep g10 HA8.out (by omega))
  have bb10 : Below w.heap.size w W10 := bb8.grown g10 (by omega) (by simp <;> omega)
  have y10 : w.heap.size + 3 ≤ W10.heap.size := by omega
  have vK10 := vK8.grown g10 (by omega)
  have vH10 := vH8.grown g10 (by omega)
  clear h10
  go_wp2_with (first | (go_at_call 22; with_reducible refine stK ?_) | (go_at_call 23; with_reducible refine stK ?_))
  refine ⟨(High_spec _ _ _ (6 :: l) 73 4 _ (hv.below bb10) (by have := hm'.out; omega) (by omega)).mono ?_⟩
  rintro e W11 ⟨rfl, hw11⟩
  subst hw11
  go_wp2_with (with_reducible refine stW 3 ?_)
  refine ⟨stCell rfl 3 (.tmp 78) (.tmp 77) rfl rfl HQ10.out (v := .int .i64 (wrap64 (numLE (((6 :: l : List UInt8).drop 73).take 4)))) rfl rfl (by kernel_rfl) (by simp) ?_⟩
  intro W12 z12 h12 g12
  have HQ12 : Hid (W12.heap[w.heap.size + 2]? = some (.cells #[.int .i64 6, .int .i64 (wrap64 (numLE (((6 :: l : List UInt8).drop 65).take 8))), .int .i64 0, .int .i64 (wrap64 (numLE (((6 :: l : List UInt8).drop 73).take 4))), .slice q5 (32) d5, .slice q7 (32) d7, .slice none 0 0] 24 (0, 0))) := h12
  have HA12 := Lib.hid (keep g12 HA10.out (by omega))
  have bb12 : Below w.heap.size w W12 := bb10.grown g12 (by omega) (by simp <;> omega)
  have y12 : w.heap.size + 3 ≤ W12.heap.size := by omega
  have vK12 := vK10.grown g12 (by omega)
  have vH12 := vH10.grown g12 (by omega)
  clear h12
  obtain ⟨cQ, fQ⟩ := live HQ12.out
  go_wp2_with (with_reducible refine stW 24 ?_)
  refine ⟨stRow rfl 24 (.tmp 2) (.tmp 87) rfl rfl HA12.out (c' := #[.int .i64 6, .int .i64 (wrap64 (numLE (((6 :: l : List UInt8).drop 65).take 8))), .int .i64 0, .int .i64 (wrap64 (numLE (((6 :: l : List UInt8).drop 73).take 4))), .slice q5 (32) d5, .slice q7 (32) d7, .slice none 0 0]) rfl (by kernel_rfl) rfl (by simp [Value.oneCell']) ?_⟩
  intro W13 z13 h13 g13
  obtain ⟨cA, fA⟩ := live h13
  clear h13
  have bb13 : Below w.heap.size w W13 := bb12.grown g13 (by omega) (by simp)
  go_wp2
  exact bodyPost_ret (v := .tuple #[.agg #[.int .i64 6, .int .i64 (wrap64 (numLE (((6 :: l : List UInt8).drop 65).take 8))), .int .i64 0, .int .i64 (wrap64 (numLE (((6 :: l : List UInt8).drop 73).take 4))), .slice q5 (32) d5, .slice q7 (32) d7, .slice none 0 0], .int .i64 0]) (by simp [results, Tryd.results13, go_sem, cA]) rfl ⟨_, _, _, _, _, _, _, _, _, rfl, bb13, ((vK12.grown g13 (by omega)).low (by omega)), ((vH12.grown g13 (by omega)).low (by omega)), (VA.nil _ _)⟩

set_option maxHeartbeats 2000000 in
set_option maxRecDepth 100000 in
theorem asked_7 (p : Option Addr) (c : Nat) (l : List UInt8) (w : World) (hv : View w (.slice p 17 c) 17 1 (bv (7 :: l))) (hm : 17 = l.length + 1) :
    Calls Tryd.prog 13 #[.slice p 17 c] w fun e w' => ∃ pk nk ck ph nh ch pb nb cb, e = .returned (.tuple #[.agg #[.int .i64 7, .int .i64 (wrap64 (numLE (((7 :: l : List UInt8).drop 1).take 8))), .int .i64 (wrap64 (numLE (((7 :: l : List UInt8).drop 9).take 8))), .int .i64 0, .slice pk nk ck, .slice ph nh ch, .slice pb nb cb], .int .i64 0]) ∧ Below w.heap.size w w' ∧
        VA w' (.slice pk nk ck) nk [] w.heap.size ∧ VA w' (.slice ph nh ch) nh [] w.heap.size ∧ VA w' (.slice pb nb cb) nb [] w.heap.size := by
  have hm' := Lib.hid hm
  clear hm
  go_enter Tryd.func13, Tryd.ntmps13
  go_wp2_with (with_reducible refine stAl 24 ?_)
  refine ⟨al rfl 24 rfl (z := .agg #[.int .i64 0, .int .i64 0, .int .i64 0, .int .i64 0, .slice none 0 0, .slice none 0 0, .slice none 0 0]) (by kernel_rfl) ?_⟩
  intro W1 z1 h1 b1
  simp only [Value.cells] at h1
  have HA1 := Lib.hid h1
  clear h1
  go_wp2_with (with_reducible refine stAl 24 ?_)
  refine ⟨al rfl 24 rfl (z := .agg #[.int .i64 0, .int .i64 0, .int .i64 0, .int .i64 0, .slice none 0 0, .slice none 0 0, .slice none 0 0]) (by kernel_rfl) ?_⟩
  intro W2 z2 h2 b2
  simp only [Value.cells] at h2
  rw [z1] at h2 b2
  have HA2 := Lib.hid ((b2.block w.heap.size (by omega)).trans HA1.out)
  have bb2 : Below w.heap.size w W2 := b1.trans (b2.mono (by omega))
  obtain ⟨cN, fN⟩ := live h2
  clear h2 HA1
  go_wp2_with (first | go_skip | (with_reducible refine stIg 22 ?_))
  refine ⟨idx sk22 rfl (.tmp 17) (.const (.int .i64 0)) rfl rfl (hv.below bb2) rfl 0 rfl (by omega) ?_⟩
  intro b' off' hc' hb'
  have hc1 : W2.cell? ⟨b', off', none⟩ = some (.int .u8 7) := by
    have := hc' 0 (.int .u8 7) rfl
    simpa using this
  clear hc' hb'
  go_wp2_with (first | go_skip | (go_at_call 17; go_in) | (with_reducible refine stAl 24 ?_))
  have y2 : W2.heap.size = w.heap.size + 2 := by omega
  refine ⟨al rfl 24 rfl (z := .agg #[.int .i64 0, .int .i64 0, .int .i64 0, .int .i64 0, .slice none 0 0, .slice none 0 0, .slice none 0 0]) (by kernel_rfl) ?_⟩
  intro W3 z3 h3 b3
  simp only [Value.cells] at h3
  rw [y2] at h3 b3
  have HA3 := Lib.hid ((b3.block w.heap.size (by omega)).trans HA2.out)
  have bb3 : Below w.heap.size w W3 := bb2.trans (b3.mono (by omega))
  clear cN fN hc1 HA2
  go_wp2_with (with_reducible refine stW 24 ?_)
  refine ⟨stRow rfl 24 (.tmp 7) (.tmp 38) rfl rfl h3 rfl (by kernel_rfl) rfl (by simp [Value.oneCell']) ?_⟩
  clear h3
  intro W4 z4 h4 g4
  have HQ4 : Hid (W4.heap[w.heap.size + 2]? = some (.cells #[.int .i64 7, .int .i64 0, .int .i64 0, .int .i64 0, .slice none 0 0, .slice none 0 0, .slice none 0 0] 24 (0, 0))) := h4
  have HA4 := Lib.hid (keep g4 HA3.out (by omega))
  have bb4 : Below w.heap.size w W4 := bb3.grown g4 (by omega) (by simp <;> omega)
  have y4 : w.heap.size + 3 ≤ W4.heap.size := by omega
  clear h4 HA3 g4 b3 bb3 bb2 b2 b1 z1 z2 z3 z4
  go_wp2_with (first | (go_at_call 22; with_reducible refine stK ?_) | (go_at_call 23; with_reducible refine stK ?_))
  refine ⟨(High_spec _ _ _ (7 :: l) 1 8 _ (hv.below bb4) (by have := hm'.out; omega) (by omega)).mono ?_⟩
  rintro e W5 ⟨rfl, hw5⟩
  subst hw5
  go_wp2_with (with_reducible refine stW 3 ?_)
  refine ⟨stCell rfl 3 (.tmp 83) (.tmp 82) rfl rfl HQ4.out (v := .int .i64 (wrap64 (numLE (((7 :: l : List UInt8).drop 1).take 8)))) rfl rfl (by kernel_rfl) (by simp) ?_⟩
  intro W6 z6 h6 g6
  have HQ6 : Hid (W6.heap[w.heap.size + 2]? = some (.cells #[.int .i64 7, .int .i64 (wrap64 (numLE (((7 :: l : List UInt8).drop 1).take 8))), .int .i64 0, .int .i64 0, .slice none 0 0, .slice none 0 0, .slice none 0 0] 24 (0, 0))) := h6
  have HA6 := Lib.hid (keep g6 HA4.out (by omega))
  have bb6 : Below w.heap.size w W6 := bb4.grown g6 (by omega) (by simp <;> omega)
  have y6 : w.heap.size + 3 ≤ W6.heap.size := by omega
  clear h6
  go_wp2_with (first | (go_at_call 22; with_reducible refine stK ?_) | (go_at_call 23; with_reducible refine stK ?_))
  refine ⟨(High_spec _ _ _ (7 :: l) 9 8 _ (hv.below bb6) (by have := hm'.out; omega) (by omega)).mono ?_⟩
  rintro e W7 ⟨rfl, hw7⟩
  subst hw7
  go_wp2_with (with_reducible refine stW 3 ?_)
  refine ⟨stCell rfl 3 (.tmp 86) (.tmp 85) rfl rfl HQ6.out (v := .int .i64 (wrap64 (numLE (((7 :: l : List UInt8).drop 9).take 8)))) rfl rfl (by kernel_rfl) (by simp) ?_⟩
  intro W8 z8 h8 g8
  have HQ8 : Hid (W8.heap[w.heap.size + 2]? = some (.cells #[.int .i64 7, .int .i64 (wrap64 (numLE (((7 :: l : List UInt8).drop 1).take 8))), .int .i64 (wrap64 (numLE (((7 :: l : List UInt8).drop 9).take 8))), .int .i64 0, .slice none 0 0, .slice none 0 0, .slice none 0 0] 24 (0, 0))) := h8
  have HA8 := Lib.hid (keep g8 HA6.out (by omega))
  have bb8 : Below w.heap.size w W8 := bb6.grown g8 (by omega) (by simp <;> omega)
  have y8 : w.heap.size + 3 ≤ W8.heap.size := by omega
  clear h8
  obtain ⟨cQ, fQ⟩ := live HQ8.out
  go_wp2_with (with_reducible refine stW 24 ?_)
  refine ⟨stRow rfl 24 (.tmp 2) (.tmp 87) rfl rfl HA8.out (c' := #[.int .i64 7, .int .i64 (wrap64 (numLE (((7 :: l : List UInt8).drop 1).take 8))), .int .i64 (wrap64 (numLE (((7 :: l : List UInt8).drop 9).take 8))), .int .i64 0, .slice none 0 0, .slice none 0 0, .slice none 0 0]) rfl (by kernel_rfl) rfl (by simp [Value.oneCell']) ?_⟩
  intro W9 z9 h9 g9
  obtain ⟨cA, fA⟩ := live h9
  clear h9
  have bb9 : Below w.heap.size w W9 := bb8.grown g9 (by omega) (by simp)
  go_wp2
  exact bodyPost_ret (v := .tuple #[.agg #[.int .i64 7, .int .i64 (wrap64 (numLE (((7 :: l : List UInt8).drop 1).take 8))), .int .i64 (wrap64 (numLE (((7 :: l : List UInt8).drop 9).take 8))), .int .i64 0, .slice none 0 0, .slice none 0 0, .slice none 0 0], .int .i64 0]) (by simp [results, Tryd.results13, go_sem, cA]) rfl ⟨_, _, _, _, _, _, _, _, _, rfl, bb9, (VA.nil _ _), (VA.nil _ _), (VA.nil _ _)⟩

set_option maxHeartbeats 2000000 in
set_option maxRecDepth 100000 in
theorem asked_8 (p : Option Addr) (c : Nat) (l : List UInt8) (w : World) (hv : View w (.slice p 1 c) 1 1 (bv (8 :: l))) (hm : 1 = l.length + 1) :
    Calls Tryd.prog 13 #[.slice p 1 c] w fun e w' => ∃ pk nk ck ph nh ch pb nb cb, e = .returned (.tuple #[.agg #[.int .i64 8, .int .i64 0, .int .i64 0, .int .i64 0, .slice pk nk ck, .slice ph nh ch, .slice pb nb cb], .int .i64 0]) ∧ Below w.heap.size w w' ∧
        VA w' (.slice pk nk ck) nk [] w.heap.size ∧ VA w' (.slice ph nh ch) nh [] w.heap.size ∧ VA w' (.slice pb nb cb) nb [] w.heap.size := by
  have hm' := Lib.hid hm
  clear hm
  go_enter Tryd.func13, Tryd.ntmps13
  go_wp2_with (with_reducible refine stAl 24 ?_)
  refine ⟨al rfl 24 rfl (z := .agg #[.int .i64 0, .int .i64 0, .int .i64 0, .int .i64 0, .slice none 0 0, .slice none 0 0, .slice none 0 0]) (by kernel_rfl) ?_⟩
  intro W1 z1 h1 b1
  simp only [Value.cells] at h1
  have HA1 := Lib.hid h1
  clear h1
  go_wp2_with (with_reducible refine stAl 24 ?_)
  refine ⟨al rfl 24 rfl (z := .agg #[.int .i64 0, .int .i64 0, .int .i64 0, .int .i64 0, .slice none 0 0, .slice none 0 0, .slice none 0 0]) (by kernel_rfl) ?_⟩
  intro W2 z2 h2 b2
  simp only [Value.cells] at h2
  rw [z1] at h2 b2
  have HA2 := Lib.hid ((b2.block w.heap.size (by omega)).trans HA1.out)
  have bb2 : Below w.heap.size w W2 := b1.trans (b2.mono (by omega))
  obtain ⟨cN, fN⟩ := live h2
  clear h2 HA1
  go_wp2_with (first | go_skip | (with_reducible refine stIg 22 ?_))
  refine ⟨idx sk22 rfl (.tmp 17) (.const (.int .i64 0)) rfl rfl (hv.below bb2) rfl 0 rfl (by omega) ?_⟩
  intro b' off' hc' hb'
  have hc1 : W2.cell? ⟨b', off', none⟩ = some (.int .u8 8) := by
    have := hc' 0 (.int .u8 8) rfl
    simpa using this
  clear hc' hb'
  go_wp2_with (first | go_skip | (go_at_call 17; go_in) | (with_reducible refine stAl 24 ?_))
  have y2 : W2.heap.size = w.heap.size + 2 := by omega
  refine ⟨al rfl 24 rfl (z := .agg #[.int .i64 0, .int .i64 0, .int .i64 0, .int .i64 0, .slice none 0 0, .slice none 0 0, .slice none 0 0]) (by kernel_rfl) ?_⟩
  intro W3 z3 h3 b3
  simp only [Value.cells] at h3
  rw [y2] at h3 b3
  have HA3 := Lib.hid ((b3.block w.heap.size (by omega)).trans HA2.out)
  have bb3 : Below w.heap.size w W3 := bb2.trans (b3.mono (by omega))
  clear cN fN hc1 HA2
  go_wp2_with (with_reducible refine stW 24 ?_)
  refine ⟨stRow rfl 24 (.tmp 7) (.tmp 38) rfl rfl h3 rfl (by kernel_rfl) rfl (by simp [Value.oneCell']) ?_⟩
  clear h3
  intro W4 z4 h4 g4
  have HQ4 : Hid (W4.heap[w.heap.size + 2]? = some (.cells #[.int .i64 8, .int .i64 0, .int .i64 0, .int .i64 0, .slice none 0 0, .slice none 0 0, .slice none 0 0] 24 (0, 0))) := h4
  have HA4 := Lib.hid (keep g4 HA3.out (by omega))
  have bb4 : Below w.heap.size w W4 := bb3.grown g4 (by omega) (by simp <;> omega)
  have y4 : w.heap.size + 3 ≤ W4.heap.size := by omega
  clear h4 HA3 g4 b3 bb3 bb2 b2 b1 z1 z2 z3 z4
  obtain ⟨cQ, fQ⟩ := live HQ4.out
  go_wp2_with (with_reducible refine stW 24 ?_)
  refine ⟨stRow rfl 24 (.tmp 2) (.tmp 87) rfl rfl HA4.out (c' := #[.int .i64 8, .int .i64 0, .int .i64 0, .int .i64 0, .slice none 0 0, .slice none 0 0, .slice none 0 0]) rfl (by kernel_rfl) rfl (by simp [Value.oneCell']) ?_⟩
  intro W5 z5 h5 g5
  obtain ⟨cA, fA⟩ := live h5
  clear h5
  have bb5 : Below w.heap.size w W5 := bb4.grown g5 (by omega) (by simp)
  go_wp2
  exact bodyPost_ret (v := .tuple #[.agg #[.int .i64 8, .int .i64 0, .int .i64 0, .int .i64 0, .slice none 0 0, .slice none 0 0, .slice none 0 0], .int .i64 0]) (by simp [results, Tryd.results13, go_sem, cA]) rfl ⟨_, _, _, _, _, _, _, _, _, rfl, bb5, (VA.nil _ _), (VA.nil _ _), (VA.nil _ _)⟩

set_option maxHeartbeats 2000000 in
set_option maxRecDepth 100000 in
theorem asked_9 (p : Option Addr) (c : Nat) (l : List UInt8) (w : World) (hv : View w (.slice p 1 c) 1 1 (bv (9 :: l))) (hm : 1 = l.length + 1) :
    Calls Tryd.prog 13 #[.slice p 1 c] w fun e w' => ∃ pk nk ck ph nh ch pb nb cb, e = .returned (.tuple #[.agg #[.int .i64 9, .int .i64 0, .int .i64 0, .int .i64 0, .slice pk nk ck, .slice ph nh ch, .slice pb nb cb], .int .i64 0]) ∧ Below w.heap.size w w' ∧
        VA w' (.slice pk nk ck) nk [] w.heap.size ∧ VA w' (.slice ph nh ch) nh [] w.heap.size ∧ VA w' (.slice pb nb cb) nb [] w.heap.size := by
  have hm' := Lib.hid hm
  clear hm
  go_enter Tryd.func13, Tryd.ntmps13
  go_wp2_with (with_reducible refine stAl 24 ?_)
  refine ⟨al rfl 24 rfl (z := .agg #[.int .i64 0, .int .i64 0, .int .i64 0, .int .i64 0, .slice none 0 0, .slice none 0 0, .slice none 0 0]) (by kernel_rfl) ?_⟩
  intro W1 z1 h1 b1
  simp only [Value.cells] at h1
  have HA1 := Lib.hid h1
  clear h1
  go_wp2_with (with_reducible refine stAl 24 ?_)
  refine ⟨al rfl 24 rfl (z := .agg #[.int .i64 0, .int .i64 0, .int .i64 0, .int .i64 0, .slice none 0 0, .slice none 0 0, .slice none 0 0]) (by kernel_rfl) ?_⟩
  intro W2 z2 h2 b2
  simp only [Value.cells] at h2
  rw [z1] at h2 b2
  have HA2 := Lib.hid ((b2.block w.heap.size (by omega)).trans HA1.out)
  have bb2 : Below w.heap.size w W2 := b1.trans (b2.mono (by omega))
  obtain ⟨cN, fN⟩ := live h2
  clear h2 HA1
  go_wp2_with (first | go_skip | (with_reducible refine stIg 22 ?_))
  refine ⟨idx sk22 rfl (.tmp 17) (.const (.int .i64 0)) rfl rfl (hv.below bb2) rfl 0 rfl (by omega) ?_⟩
  intro b' off' hc' hb'
  have hc1 : W2.cell? ⟨b', off', none⟩ = some (.int .u8 9) := by
    have := hc' 0 (.int .u8 9) rfl
    simpa using this
  clear hc' hb'
  go_wp2_with (first | go_skip | (go_at_call 17; go_in) | (with_reducible refine stAl 24 ?_))
  have y2 : W2.heap.size = w.heap.size + 2 := by omega
  refine ⟨al rfl 24 rfl (z := .agg #[.int .i64 0, .int .i64 0, .int .i64 0, .int .i64 0, .slice none 0 0, .slice none 0 0, .slice none 0 0]) (by kernel_rfl) ?_⟩
  intro W3 z3 h3 b3
  simp only [Value.cells] at h3
  rw [y2] at h3 b3
  have HA3 := Lib.hid ((b3.block w.heap.size (by omega)).trans HA2.out)
  have bb3 : Below w.heap.size w W3 := bb2.trans (b3.mono (by omega))
  clear cN fN hc1 HA2
  go_wp2_with (with_reducible refine stW 24 ?_)
  refine ⟨stRow rfl 24 (.tmp 7) (.tmp 38) rfl rfl h3 rfl (by kernel_rfl) rfl (by simp [Value.oneCell']) ?_⟩
  clear h3
  intro W4 z4 h4 g4
  have HQ4 : Hid (W4.heap[w.heap.size + 2]? = some (.cells #[.int .i64 9, .int .i64 0, .int .i64 0, .int .i64 0, .slice none 0 0, .slice none 0 0, .slice none 0 0] 24 (0, 0))) := h4
  have HA4 := Lib.hid (keep g4 HA3.out (by omega))
  have bb4 : Below w.heap.size w W4 := bb3.grown g4 (by omega) (by simp <;> omega)
  have y4 : w.heap.size + 3 ≤ W4.heap.size := by omega
  clear h4 HA3 g4 b3 bb3 bb2 b2 b1 z1 z2 z3 z4
  obtain ⟨cQ, fQ⟩ := live HQ4.out
  go_wp2_with (with_reducible refine stW 24 ?_)
  refine ⟨stRow rfl 24 (.tmp 2) (.tmp 87) rfl rfl HA4.out (c' := #[.int .i64 9, .int .i64 0, .int .i64 0, .int .i64 0, .slice none 0 0, .slice none 0 0, .slice none 0 0]) rfl (by kernel_rfl) rfl (by simp [Value.oneCell']) ?_⟩
  intro W5 z5 h5 g5
  obtain ⟨cA, fA⟩ := live h5
  clear h5
  have bb5 : Below w.heap.size w W5 := bb4.grown g5 (by omega) (by simp)
  go_wp2
  exact bodyPost_ret (v := .tuple #[.agg #[.int .i64 9, .int .i64 0, .int .i64 0, .int .i64 0, .slice none 0 0, .slice none 0 0, .slice none 0 0], .int .i64 0]) (by simp [results, Tryd.results13, go_sem, cA]) rfl ⟨_, _, _, _, _, _, _, _, _, rfl, bb5, (VA.nil _ _), (VA.nil _ _), (VA.nil _ _)⟩

end Go.Proofs.YtmedbedpgbbdgaaDoor
