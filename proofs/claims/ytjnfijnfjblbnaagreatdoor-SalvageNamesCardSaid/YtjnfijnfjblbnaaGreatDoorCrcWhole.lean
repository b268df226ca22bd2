/- Walks: crc.Whole. Printed by gen_salv.py. -/
import Derived.Test.YtjnfijnfjblbnaaGreatDoorCrcWalks
namespace Go.Proofs.YtjnfijnfjblbnaaGreatDoor
open Go.RowKit
set_option linter.unusedVariables false

theorem getD_cell {w : World} {b off n : Nat} {l : List UInt8} (h : Cells w b off (((bv l).drop (n * 1)).take 1)) (hn : n < l.length) : w.cell? ⟨b, off, none⟩ = some (.int .u8 (l.getD n 0).toNat) := by
  have := h 0 (.int .u8 (l.getD n 0).toNat) (by simp [bv, List.getElem?_drop, hn, List.getD_eq_getElem?_getD])
  simpa using this

theorem View.pre {w : World} {q : Option Addr} {n c : Nat} {l : List UInt8} (hv : View w (.slice q n c) n 1 (bv l)) (m : Nat) (hm : m ≤ n) (hl : n ≤ l.length) : View w (.slice q m c) m 1 (bv (l.take m)) := by
  have hc := hv.cap
  have := (hv.cut0 m c (by omega) (Nat.le_refl _) (by simp [bv_length]; omega)).trim
  rwa [List.take_take, Nat.mul_one, Nat.mul_one, Nat.min_eq_left (by omega), bv_take] at this

set_option maxHeartbeats 1000000 in
set_option maxRecDepth 100000 in
theorem whole_0 (q : Option Addr) (m c : Nat) (l : List UInt8) (w : World) (hv : View w (.slice q (m + 4) c) (m + 4) 1 (bv l)) (hl : l.length = m + 4)
     (e0 : (l.getD (m + 0) 0).toNat ≠ Crc.sum (l.take m) / 1 % 256) :
    Calls Tryz.prog 26 #[.slice q (m + 4) c] w fun e w' => e = .returned (.bool false) ∧ Below w.heap.size w w' := by
  have hcap := hv.cap
  have hmx := hv.max
  have hmm : IntKind.i64.wrap (((m + 4 : Nat) : Int) - 4) = (m : Int) := by
    rw [show ((m + 4 : Nat) : Int) - 4 = (m : Int) by omega]
    exact IntWalk.i64_in _ (by omega)
  obtain ⟨s, hs⟩ : ∃ s, s = Crc.sum (l.take m) := ⟨_, rfl⟩
  have s1 : s < 4294967296 := by rw [hs]; exact Crc.sum_lt _
  rw [← hs] at e0
  obtain ⟨g0, hg0⟩ : ∃ g, g = (l.getD (m + 0) 0).toNat := ⟨_, rfl⟩
  rw [← hg0] at e0
  have G0 := Lib.hid hg0
  clear hg0
  have E0 := Lib.hid e0
  clear e0
  have HS := Lib.hid hs
  clear hs
  have hz : decide (((m : Nat) : Int) < 0) = false := by simp
  have hmv : View w (.slice q m c) m 1 (bv (l.take m)) := hv.pre m (by omega) (by omega)
  have HL := Lib.hid hl
  have hm4 : m + 4 ≤ l.length := by omega
  clear hl
  go_enter Tryz.func26, Tryz.ntmps26
  go_wp2_with (with_reducible refine stS ?_)
  refine ⟨slcH skB rfl (.tmp 10) (.tmp 11) rfl (y := q) (n := m + 4) (c := c) rfl m rfl (by omega) ?_⟩
  go_wp2_with (first | (go_at_call 31; with_reducible refine stK ?_))
  refine ⟨(sum_spec q m c (l.take m) w hmv (by rw [List.length_take, HL.out]; omega)).mono ?_⟩
  rintro e w1 ⟨rfl, hb⟩
  rw [← HS.out]
  have hv1 := hv.below hb
  go_wp2_with (first | go_skip | (with_reducible refine stI 22 ?_))
  refine ⟨idx skB rfl (.tmp 14) (.tmp 15) rfl (y := q) (n := m + 4) (c := c) rfl hv1 rfl (m + 0) (by simp) (by omega) ?_⟩
  intro b0 o0 hc0 _
  have C0 : w1.cell? ⟨b0, o0, none⟩ = some (.int .u8 g0) := by rw [G0.out]; exact getD_cell hc0 (by omega)
  clear hc0
  go_wp2_with (first | go_skip | (with_reducible refine stE 5 ?_))
  refine ⟨eqI rfl rfl rfl rfl false (by have := E0.out; simp; omega) ?_⟩
  go_wp2
  go_ret
  exact ⟨rfl, hb⟩

set_option maxHeartbeats 1000000 in
set_option maxRecDepth 100000 in
theorem whole_1 (q : Option Addr) (m c : Nat) (l : List UInt8) (w : World) (hv : View w (.slice q (m + 4) c) (m + 4) 1 (bv l)) (hl : l.length = m + 4)
    (e0 : (l.getD (m + 0) 0).toNat = Crc.sum (l.take m) / 1 % 256) (e1 : (l.getD (m + 1) 0).toNat ≠ Crc.sum (l.take m) / 256 % 256) :
    Calls Tryz.prog 26 #[.slice q (m + 4) c] w fun e w' => e = .returned (.bool false) ∧ Below w.heap.size w w' := by
  have hcap := hv.cap
  have hmx := hv.max
  have hmm : IntKind.i64.wrap (((m + 4 : Nat) : Int) - 4) = (m : Int) := by
    rw [show ((m + 4 : Nat) : Int) - 4 = (m : Int) by omega]
    exact IntWalk.i64_in _ (by omega)
  obtain ⟨s, hs⟩ : ∃ s, s = Crc.sum (l.take m) := ⟨_, rfl⟩
  have s1 : s < 4294967296 := by rw [hs]; exact Crc.sum_lt _
  rw [← hs] at e0 e1
  obtain ⟨g0, hg0⟩ : ∃ g, g = (l.getD (m + 0) 0).toNat := ⟨_, rfl⟩
  rw [← hg0] at e0
  have G0 := Lib.hid hg0
  clear hg0
  have E0 := Lib.hid e0
  clear e0
  obtain ⟨g1, hg1⟩ : ∃ g, g = (l.getD (m + 1) 0).toNat := ⟨_, rfl⟩
  rw [← hg1] at e1
  have G1 := Lib.hid hg1
  clear hg1
  have E1 := Lib.hid e1
  clear e1
  have HS := Lib.hid hs
  clear hs
  have hz : decide (((m : Nat) : Int) < 0) = false := by simp
  have hmv : View w (.slice q m c) m 1 (bv (l.take m)) := hv.pre m (by omega) (by omega)
  have HL := Lib.hid hl
  have hm4 : m + 4 ≤ l.length := by omega
  clear hl
  go_enter Tryz.func26, Tryz.ntmps26
  go_wp2_with (with_reducible refine stS ?_)
  refine ⟨slcH skB rfl (.tmp 10) (.tmp 11) rfl (y := q) (n := m + 4) (c := c) rfl m rfl (by omega) ?_⟩
  go_wp2_with (first | (go_at_call 31; with_reducible refine stK ?_))
  refine ⟨(sum_spec q m c (l.take m) w hmv (by rw [List.length_take, HL.out]; omega)).mono ?_⟩
  rintro e w1 ⟨rfl, hb⟩
  rw [← HS.out]
  have hv1 := hv.below hb
  go_wp2_with (first | go_skip | (with_reducible refine stI 22 ?_))
  refine ⟨idx skB rfl (.tmp 14) (.tmp 15) rfl (y := q) (n := m + 4) (c := c) rfl hv1 rfl (m + 0) (by simp) (by omega) ?_⟩
  intro b0 o0 hc0 _
  have C0 : w1.cell? ⟨b0, o0, none⟩ = some (.int .u8 g0) := by rw [G0.out]; exact getD_cell hc0 (by omega)
  clear hc0
  go_wp2_with (first | go_skip | (with_reducible refine stE 5 ?_))
  refine ⟨eqI rfl rfl rfl rfl true (by have := E0.out; simp; omega) ?_⟩
  go_wp2_with (first | go_skip | (with_reducible refine stIg 22 ?_))
  refine ⟨idx skB rfl (.tmp 22) (.tmp 24) rfl (y := q) (n := m + 4) (c := c) rfl hv1 rfl (m + 1) (by simp) (by omega) ?_⟩
  intro b1 o1 hc1 _
  have C1 : w1.cell? ⟨b1, o1, none⟩ = some (.int .u8 g1) := by rw [G1.out]; exact getD_cell hc1 (by omega)
  clear hc1
  go_wp2_with (first | go_skip | (with_reducible refine stEg 5 ?_))
  refine ⟨eqI rfl rfl rfl rfl false (by have := E1.out; simp; omega) ?_⟩
  go_wp2
  go_ret
  exact ⟨rfl, hb⟩

set_option maxHeartbeats 1000000 in
set_option maxRecDepth 100000 in
theorem whole_2 (q : Option Addr) (m c : Nat) (l : List UInt8) (w : World) (hv : View w (.slice q (m + 4) c) (m + 4) 1 (bv l)) (hl : l.length = m + 4)
    (e0 : (l.getD (m + 0) 0).toNat = Crc.sum (l.take m) / 1 % 256) (e1 : (l.getD (m + 1) 0).toNat = Crc.sum (l.take m) / 256 % 256) (e2 : (l.getD (m + 2) 0).toNat ≠ Crc.sum (l.take m) / 65536 % 256) :
    Calls Tryz.prog 26 #[.slice q (m + 4) c] w fun e w' => e = .returned (.bool false) ∧ Below w.heap.size w w' := by
  have hcap := hv.cap
  have hmx := hv.max
  have hmm : IntKind.i64.wrap (((m + 4 : Nat) : Int) - 4) = (m : Int) := by
    rw [show ((m + 4 : Nat) : Int) - 4 = (m : Int) by omega]
    exact IntWalk.i64_in _ (by omega)
  obtain ⟨s, hs⟩ : ∃ s, s = Crc.sum (l.take m) := ⟨_, rfl⟩
  have s1 : s < 4294967296 := by rw [hs]; exact Crc.sum_lt _
  rw [← hs] at e0 e1 e2
  obtain ⟨g0, hg0⟩ : ∃ g, g = (l.getD (m + 0) 0).toNat := ⟨_, rfl⟩
  rw [← hg0] at e0
  have G0 := Lib.hid hg0
  clear hg0
  have E0 := Lib.hid e0
  clear e0
  obtain ⟨g1, hg1⟩ : ∃ g, g = (l.getD (m + 1) 0).toNat := ⟨_, rfl⟩
  rw [← hg1] at e1
  have G1 := Lib.hid hg1
  clear hg1
  have E1 := Lib.hid e1
  clear e1
  obtain ⟨g2, hg2⟩ : ∃ g, g = (l.getD (m + 2) 0).toNat := ⟨_, rfl⟩
  rw [← hg2] at e2
  have G2 := Lib.hid hg2
  clear hg2
  have E2 := Lib.hid e2
  clear e2
  have HS := Lib.hid hs
  clear hs
  have hz : decide (((m : Nat) : Int) < 0) = false := by simp
  have hmv : View w (.slice q m c) m 1 (bv (l.take m)) := hv.pre m (by omega) (by omega)
  have HL := Lib.hid hl
  have hm4 : m + 4 ≤ l.length := by omega
  clear hl
  go_enter Tryz.func26, Tryz.ntmps26
  go_wp2_with (with_reducible refine stS ?_)
  refine ⟨slcH skB rfl (.tmp 10) (.tmp 11) rfl (y := q) (n := m + 4) (c := c) rfl m rfl (by omega) ?_⟩
  go_wp2_with (first | (go_at_call 31; with_reducible refine stK ?_))
  refine ⟨(sum_spec q m c (l.take m) w hmv (by rw [List.length_take, HL.out]; omega)).mono ?_⟩
  rintro e w1 ⟨rfl, hb⟩
  rw [← HS.out]
  have hv1 := hv.below hb
  go_wp2_with (first | go_skip | (with_reducible refine stI 22 ?_))
  refine ⟨idx skB rfl (.tmp 14) (.tmp 15) rfl (y := q) (n := m + 4) (c := c) rfl hv1 rfl (m + 0) (by simp) (by omega) ?_⟩
  intro b0 o0 hc0 _
  have C0 : w1.cell? ⟨b0, o0, none⟩ = some (.int .u8 g0) := by rw [G0.out]; exact getD_cell hc0 (by omega)
  clear hc0
  go_wp2_with (first | go_skip | (with_reducible refine stE 5 ?_))
  refine ⟨eqI rfl rfl rfl rfl true (by have := E0.out; simp; omega) ?_⟩
  go_wp2_with (first | go_skip | (with_reducible refine stIg 22 ?_))
  refine ⟨idx skB rfl (.tmp 22) (.tmp 24) rfl (y := q) (n := m + 4) (c := c) rfl hv1 rfl (m + 1) (by simp) (by omega) ?_⟩
  intro b1 o1 hc1 _
  have C1 : w1.cell? ⟨b1, o1, none⟩ = some (.int .u8 g1) := by rw [G1.out]; exact getD_cell hc1 (by omega)
  clear hc1
  go_wp2_with (first | go_skip | (with_reducible refine stEg 5 ?_))
  refine ⟨eqI rfl rfl rfl rfl true (by have := E1.out; simp; omega) ?_⟩
  go_wp2_with (first | go_skip | (with_reducible refine stIg 22 ?_))
  refine ⟨idx skB rfl (.tmp 33) (.tmp 35) rfl (y := q) (n := m + 4) (c := c) rfl hv1 rfl (m + 2) (by simp) (by omega) ?_⟩
  intro b2 o2 hc2 _
  have C2 : w1.cell? ⟨b2, o2, none⟩ = some (.int .u8 g2) := by rw [G2.out]; exact getD_cell hc2 (by omega)
  clear hc2
  go_wp2_with (first | go_skip | (with_reducible refine stEg 5 ?_))
  refine ⟨eqI rfl rfl rfl rfl false (by have := E2.out; simp; omega) ?_⟩
  go_wp2
  go_ret
  exact ⟨rfl, hb⟩

set_option maxHeartbeats 1000000 in
set_option maxRecDepth 100000 in
theorem whole_3 (q : Option Addr) (m c : Nat) (l : List UInt8) (w : World) (hv : View w (.slice q (m + 4) c) (m + 4) 1 (bv l)) (hl : l.length = m + 4)
    (e0 : (l.getD (m + 0) 0).toNat = Crc.sum (l.take m) / 1 % 256) (e1 : (l.getD (m + 1) 0).toNat = Crc.sum (l.take m) / 256 % 256) (e2 : (l.getD (m + 2) 0).toNat = Crc.sum (l.take m) / 65536 % 256) (e3 : (l.getD (m + 3) 0).toNat ≠ Crc.sum (l.take m) / 16777216 % 256) :
    Calls Tryz.prog 26 #[.slice q (m + 4) c] w fun e w' => e = .returned (.bool false) ∧ Below w.heap.size w w' := by
  have hcap := hv.cap
  have hmx := hv.max
  have hmm : IntKind.i64.wrap (((m + 4 : Nat) : Int) - 4) = (m : Int) := by
    rw [show ((m + 4 : Nat) : Int) - 4 = (m : Int) by omega]
    exact IntWalk.i64_in _ (by omega)
  obtain ⟨s, hs⟩ : ∃ s, s = Crc.sum (l.take m) := ⟨_, rfl⟩
  have s1 : s < 4294967296 := by rw [hs]; exact Crc.sum_lt _
  rw [← hs] at e0 e1 e2 e3
  obtain ⟨g0, hg0⟩ : ∃ g, g = (l.getD (m + 0) 0).toNat := ⟨_, rfl⟩
  rw [← hg0] at e0
  have G0 := Lib.hid hg0
  clear hg0
  have E0 := Lib.hid e0
  clear e0
  obtain ⟨g1, hg1⟩ : ∃ g, g = (l.getD (m + 1) 0).toNat := ⟨_, rfl⟩
  rw [← hg1] at e1
  have G1 := Lib.hid hg1
  clear hg1
  have E1 := Lib.hid e1
  clear e1
  obtain ⟨g2, hg2⟩ : ∃ g, g = (l.getD (m + 2) 0).toNat := ⟨_, rfl⟩
  rw [← hg2] at e2
  have G2 := Lib.hid hg2
  clear hg2
  have E2 := Lib.hid e2
  clear e2
  obtain ⟨g3, hg3⟩ : ∃ g, g = (l.getD (m + 3) 0).toNat := ⟨_, rfl⟩
  rw [← hg3] at e3
  have G3 := Lib.hid hg3
  clear hg3
  have E3 := Lib.hid e3
  clear e3
  have HS := Lib.hid hs
  clear hs
  have hz : decide (((m : Nat) : Int) < 0) = false := by simp
  have hmv : View w (.slice q m c) m 1 (bv (l.take m)) := hv.pre m (by omega) (by omega)
  have HL := Lib.hid hl
  have hm4 : m + 4 ≤ l.length := by omega
  clear hl
  go_enter Tryz.func26, Tryz.ntmps26
  go_wp2_with (with_reducible refine stS ?_)
  refine ⟨slcH skB rfl (.tmp 10) (.tmp 11) rfl (y := q) (n := m + 4) (c := c) rfl m rfl (by omega) ?_⟩
  go_wp2_with (first | (go_at_call 31; with_reducible refine stK ?_))
  refine ⟨(sum_spec q m c (l.take m) w hmv (by rw [List.length_take, HL.out]; omega)).mono ?_⟩
  rintro e w1 ⟨rfl, hb⟩
  rw [← HS.out]
  have hv1 := hv.below hb
  go_wp2_with (first | go_skip | (with_reducible refine stI 22 ?_))
  refine ⟨idx skB rfl (.tmp 14) (.tmp 15) rfl (y := q) (n := m + 4) (c := c) rfl hv1 rfl (m + 0) (by simp) (by omega) ?_⟩
  intro b0 o0 hc0 _
  have C0 : w1.cell? ⟨b0, o0, none⟩ = some (.int .u8 g0) := by rw [G0.out]; exact getD_cell hc0 (by omega)
  clear hc0
  go_wp2_with (first | go_skip | (with_reducible refine stE 5 ?_))
  refine ⟨eqI rfl rfl rfl rfl true (by have := E0.out; simp; omega) ?_⟩
  go_wp2_with (first | go_skip | (with_reducible refine stIg 22 ?_))
  refine ⟨idx skB rfl (.tmp 22) (.tmp 24) rfl (y := q) (n := m + 4) (c := c) rfl hv1 rfl (m + 1) (by simp) (by omega) ?_⟩
  intro b1 o1 hc1 _
  have C1 : w1.cell? ⟨b1, o1, none⟩ = some (.int .u8 g1) := by rw [G1.out]; exact getD_cell hc1 (by omega)
  clear hc1
  go_wp2_with (first | go_skip | (with_reducible refine stEg 5 ?_))
  refine ⟨eqI rfl rfl rfl rfl true (by have := E1.out; simp; omega) ?_⟩
  go_wp2_with (first | go_skip | (with_reducible refine stIg 22 ?_))
  refine ⟨idx skB rfl (.tmp 33) (.tmp 35) rfl (y := q) (n := m + 4) (c := c) rfl hv1 rfl (m + 2) (by simp) (by omega) ?_⟩
  intro b2 o2 hc2 _
  have C2 : w1.cell? ⟨b2, o2, none⟩ = some (.int .u8 g2) := by rw [G2.out]; exact getD_cell hc2 (by omega)
  clear hc2
  go_wp2_with (first | go_skip | (with_reducible refine stEg 5 ?_))
  refine ⟨eqI rfl rfl rfl rfl true (by have := E2.out; simp; omega) ?_⟩
  go_wp2_with (first | go_skip | (with_reducible refine stIg 22 ?_))
  refine ⟨idx skB rfl (.tmp 44) (.tmp 46) rfl (y := q) (n := m + 4) (c := c) rfl hv1 rfl (m + 3) (by simp) (by omega) ?_⟩
  intro b3 o3 hc3 _
  have C3 : w1.cell? ⟨b3, o3, none⟩ = some (.int .u8 g3) := by rw [G3.out]; exact getD_cell hc3 (by omega)
  clear hc3
  go_wp2_with (first | go_skip | (with_reducible refine stEg 5 ?_))
  refine ⟨eqI rfl rfl rfl rfl false (by have := E3.out; simp; omega) ?_⟩
  go_wp2
  go_ret
  exact ⟨rfl, hb⟩

set_option maxHeartbeats 1000000 in
set_option maxRecDepth 100000 in
theorem whole_yes (q : Option Addr) (m c : Nat) (l : List UInt8) (w : World) (hv : View w (.slice q (m + 4) c) (m + 4) 1 (bv l)) (hl : l.length = m + 4)
    (e0 : (l.getD (m + 0) 0).toNat = Crc.sum (l.take m) / 1 % 256) (e1 : (l.getD (m + 1) 0).toNat = Crc.sum (l.take m) / 256 % 256) (e2 : (l.getD (m + 2) 0).toNat = Crc.sum (l.take m) / 65536 % 256) (e3 : (l.getD (m + 3) 0).toNat = Crc.sum (l.take m) / 16777216 % 256) :
    Calls Tryz.prog 26 #[.slice q (m + 4) c] w fun e w' => e = .returned (.bool true) ∧ Below w.heap.size w w' := by
  have hcap := hv.cap
  have hmx := hv.max
  have hmm : IntKind.i64.wrap (((m + 4 : Nat) : Int) - 4) = (m : Int) := by
    rw [show ((m + 4 : Nat) : Int) - 4 = (m : Int) by omega]
    exact IntWalk.i64_in _ (by omega)
  obtain ⟨s, hs⟩ : ∃ s, s = Crc.sum (l.take m) := ⟨_, rfl⟩
  have s1 : s < 4294967296 := by rw [hs]; exact Crc.sum_lt _
  rw [← hs] at e0 e1 e2 e3
  obtain ⟨g0, hg0⟩ : ∃ g, g = (l.getD (m + 0) 0).toNat := ⟨_, rfl⟩
  rw [← hg0] at e0
  have G0 := Lib.hid hg0
  clear hg0
  have E0 := Lib.hid e0
  clear e0
  obtain ⟨g1, hg1⟩ : ∃ g, g = (l.getD (m + 1) 0).toNat := ⟨_, rfl⟩
  rw [← hg1] at e1
  have G1 := Lib.hid hg1
  clear hg1
  have E1 := Lib.hid e1
  clear e1
  obtain ⟨g2, hg2⟩ : ∃ g, g = (l.getD (m + 2) 0).toNat := ⟨_, rfl⟩
  rw [← hg2] at e2
  have G2 := Lib.hid hg2
  clear hg2
  have E2 := Lib.hid e2
  clear e2
  obtain ⟨g3, hg3⟩ : ∃ g, g = (l.getD (m + 3) 0).toNat := ⟨_, rfl⟩
  rw [← hg3] at e3
  have G3 := Lib.hid hg3
  clear hg3
  have E3 := Lib.hid e3
  clear e3
  have HS := Lib.hid hs
  clear hs
  have hz : decide (((m : Nat) : Int) < 0) = false := by simp
  have hmv : View w (.slice q m c) m 1 (bv (l.take m)) := hv.pre m (by omega) (by omega)
  have HL := Lib.hid hl
  have hm4 : m + 4 ≤ l.length := by omega
  clear hl
  go_enter Tryz.func26, Tryz.ntmps26
  go_wp2_with (with_reducible refine stS ?_)
  refine ⟨slcH skB rfl (.tmp 10) (.tmp 11) rfl (y := q) (n := m + 4) (c := c) rfl m rfl (by omega) ?_⟩
  go_wp2_with (first | (go_at_call 31; with_reducible refine stK ?_))
  refine ⟨(sum_spec q m c (l.take m) w hmv (by rw [List.length_take, HL.out]; omega)).mono ?_⟩
  rintro e w1 ⟨rfl, hb⟩
  rw [← HS.out]
  have hv1 := hv.below hb
  go_wp2_with (first | go_skip | (with_reducible refine stI 22 ?_))
  refine ⟨idx skB rfl (.tmp 14) (.tmp 15) rfl (y := q) (n := m + 4) (c := c) rfl hv1 rfl (m + 0) (by simp) (by omega) ?_⟩
  intro b0 o0 hc0 _
  have C0 : w1.cell? ⟨b0, o0, none⟩ = some (.int .u8 g0) := by rw [G0.out]; exact getD_cell hc0 (by omega)
  clear hc0
  go_wp2_with (first | go_skip | (with_reducible refine stE 5 ?_))
  refine ⟨eqI rfl rfl rfl rfl true (by have := E0.out; simp; omega) ?_⟩
  go_wp2_with (first | go_skip | (with_reducible refine stIg 22 ?_))
  refine ⟨idx skB rfl (.tmp 22) (.tmp 24) rfl (y := q) (n := m + 4) (c := c) rfl hv1 rfl (m + 1) (by simp) (by omega) ?_⟩
  intro b1 o1 hc1 _
  have C1 : w1.cell? ⟨b1, o1, none⟩ = some (.int .u8 g1) := by rw [G1.out]; exact getD_cell hc1 (by omega)
  clear hc1
  go_wp2_with (first | go_skip | (with_reducible refine stEg 5 ?_))
  refine ⟨eqI rfl rfl rfl rfl true (by have := E1.out; simp; omega) ?_⟩
  go_wp2_with (first | go_skip | (with_reducible refine stIg 22 ?_))
  refine ⟨idx skB rfl (.tmp 33) (.tmp 35) rfl (y := q) (n := m + 4) (c := c) rfl hv1 rfl (m + 2) (by simp) (by omega) ?_⟩
  intro b2 o2 hc2 _
  have C2 : w1.cell? ⟨b2, o2, none⟩ = some (.int .u8 g2) := by rw [G2.out]; exact getD_cell hc2 (by omega)
  clear hc2
  go_wp2_with (first | go_skip | (with_reducible refine stEg 5 ?_))
  refine ⟨eqI rfl rfl rfl rfl true (by have := E2.out; simp; omega) ?_⟩
  go_wp2_with (first | go_skip | (with_reducible refine stIg 22 ?_))
  refine ⟨idx skB rfl (.tmp 44) (.tmp 46) rfl (y := q) (n := m + 4) (c := c) rfl hv1 rfl (m + 3) (by simp) (by omega) ?_⟩
  intro b3 o3 hc3 _
  have C3 : w1.cell? ⟨b3, o3, none⟩ = some (.int .u8 g3) := by rw [G3.out]; exact getD_cell hc3 (by omega)
  clear hc3
  go_wp2_with (first | go_skip | (with_reducible refine stEg 5 ?_))
  refine ⟨eqI rfl rfl rfl rfl true (by have := E3.out; simp; omega) ?_⟩
  go_wp2
  go_ret
  exact ⟨rfl, hb⟩

theorem whole_spec (q : Option Addr) (m c : Nat) (l : List UInt8) (w : World) (hv : View w (.slice q (m + 4) c) (m + 4) 1 (bv l)) (hl : l.length = m + 4) :
    Calls Tryz.prog 26 #[.slice q (m + 4) c] w fun e w' => e = .returned (.bool (decide (Crc.syn l m = 0))) ∧ Below w.heap.size w w' := by
  have hs := Crc.sum_lt (l.take m)
  have h0 := (l.getD m 0).toNat_lt
  have h1 := (l.getD (m + 1) 0).toNat_lt
  have h2 := (l.getD (m + 2) 0).toNat_lt
  have h3 := (l.getD (m + 3) 0).toNat_lt
  have key : Crc.syn l m = 0 ↔ Crc.sum (l.take m) = (l.getD m 0).toNat + (l.getD (m + 1) 0).toNat * 256 + (l.getD (m + 2) 0).toNat * 65536 + (l.getD (m + 3) 0).toNat * 16777216 := by rw [Crc.syn_zero, Crc.stored_eq]
  by_cases e0 : (l.getD (m + 0) 0).toNat = Crc.sum (l.take m) / 1 % 256
  · by_cases e1 : (l.getD (m + 1) 0).toNat = Crc.sum (l.take m) / 256 % 256
    · by_cases e2 : (l.getD (m + 2) 0).toNat = Crc.sum (l.take m) / 65536 % 256
      · by_cases e3 : (l.getD (m + 3) 0).toNat = Crc.sum (l.take m) / 16777216 % 256
        · have : decide (Crc.syn l m = 0) = true := by simp only [decide_eq_true_eq, key]; simp only [Nat.add_zero] at e0; omega
          rw [this]
          exact whole_yes q m c l w hv hl e0 e1 e2 e3
        · have : decide (Crc.syn l m = 0) = false := by simp only [decide_eq_false_iff_not, key]; omega
          rw [this]
          exact whole_3 q m c l w hv hl e0 e1 e2 e3
      · have : decide (Crc.syn l m = 0) = false := by simp only [decide_eq_false_iff_not, key]; omega
        rw [this]
        exact whole_2 q m c l w hv hl e0 e1 e2
    · have : decide (Crc.syn l m = 0) = false := by simp only [decide_eq_false_iff_not, key]; omega
      rw [this]
      exact whole_1 q m c l w hv hl e0 e1
  · have : decide (Crc.syn l m = 0) = false := by simp only [decide_eq_false_iff_not, key]; simp only [Nat.add_zero] at e0; omega
    rw [this]
    exact whole_0 q m c l w hv hl e0
end Go.Proofs.YtjnfijnfjblbnaaGreatDoor
