/- Walks: the four calls on a blank image of three pages. -/
import Derived.Test.YtjnfijnfjblbnaaGreatDoorBlank
namespace Go.Proofs.YtjnfijnfjblbnaaGreatDoor
open Go.RowKit Go.Maps
set_option linter.unusedVariables false

def zeros : List UInt8 := List.replicate 768 0
theorem zeros_blank0 : Blank zeros 0 := by unfold Blank; decide +kernel
theorem zeros_blank1 : Blank zeros 1 := by unfold Blank; decide +kernel
theorem zeros_syn : Crc.syn (List.replicate 64 0) 60 ≠ 0 := by decide +kernel
theorem zeros_last : Crc.last (Crc.pairs 60) (Crc.syn (List.replicate 64 0) 60) = none := by decide +kernel

theorem slot_zeros (bb p : Nat) (cs : Array Value) (q : Option Addr) (c : Nat) (w : World) (hB : BenchIs w bb cs q 768 c zeros) (himg : ∀ k, (Value.slice q 768 c).ownBlock = some k → k < w.heap.size) (hp : p < 2) :
    Calls Tryz.prog 9 #[.pointer (some ⟨bb, 0, none⟩), .int .i64 p] w fun e w' => ∃ cs', e = .returned (.bool false) ∧ BenchIs w' bb cs' q 768 c zeros ∧ w.grownBy w' (some bb) := by
  have hz : ((zeros.drop (256 * p)).take 256).take 64 = List.replicate 64 0 := by
    match p, hp with
    | 0, _ => exact zeros_blank0
    | 1, _ => exact zeros_blank1
  exact slot_no bb cs q 768 c p zeros w hB himg (by omega) (by rw [hz]; exact zeros_syn) (by rw [hz]; exact zeros_last)

set_option maxHeartbeats 2000000 in
set_option maxRecDepth 100000 in
theorem whole_blank (q : Option Addr) (c : Nat) (w : World) (hv : View w (.slice q 768 c) 768 1 (bv zeros)) :
    Calls Tryz.prog 5 #[.slice q 768 c] w fun e w' => e = .returned (.tuple #[.int .i64 0, .int .i64 0, .int .i64 55]) ∧ Below w.heap.size w w' := by
  have h55 : ((55 : Int) != 0) = true := by decide
  go_enter Tryz.func5, Tryz.ntmps5
  go_wp2_with (first | go_skip | (go_at_call 8; with_reducible refine stK ?_))
  refine ⟨(lay_ok q 768 c 3 zeros w hv (by decide +kernel) (by decide) (by decide) (by decide)).mono ?_⟩
  rintro e W1 ⟨bb, q', c', cs, rfl, B1, lb, himg, b1⟩
  go_wp2_with (first | go_skip | (go_at_call 10; with_reducible refine stK ?_))
  refine ⟨(choose_blank' bb cs q' 768 c' zeros W1 B1 (by decide) zeros_blank0 zeros_blank1).mono ?_⟩
  rintro e W2 ⟨cs2, rfl, B2, g2⟩
  have b2 : Below w.heap.size w W2 := b1.grown g2 b1.size (fun k hk => by cases hk; exact lb)
  go_wp2
  go_ret3
  exact ⟨rfl, b2⟩

set_option maxHeartbeats 2000000 in
set_option maxRecDepth 100000 in
theorem cut_blank (q : Option Addr) (c : Nat) (v : Int) (w : World) (hv : View w (.slice q 768 c) 768 1 (bv zeros)) :
    Calls Tryz.prog 6 #[.slice q 768 c, .int .i64 v] w fun e w' => e = .returned (.tuple #[.slice none 0 0, .int .i64 55]) ∧ Below w.heap.size w w' := by
  have h55 : ((55 : Int) != 0) = true := by decide
  go_enter Tryz.func6, Tryz.ntmps6
  go_wp2_with (first | go_skip | (go_at_call 8; with_reducible refine stK ?_))
  refine ⟨(lay_ok q 768 c 3 zeros w hv (by decide +kernel) (by decide) (by decide) (by decide)).mono ?_⟩
  rintro e W1 ⟨bb, q', c', cs, rfl, B1, lb, himg, b1⟩
  go_wp2_with (first | go_skip | (go_at_call 10; with_reducible refine stK ?_))
  refine ⟨(choose_blank' bb cs q' 768 c' zeros W1 B1 (by decide) zeros_blank0 zeros_blank1).mono ?_⟩
  rintro e W2 ⟨cs2, rfl, B2, g2⟩
  have b2 : Below w.heap.size w W2 := b1.grown g2 b1.size (fun k hk => by cases hk; exact lb)
  go_wp2
  go_ret2
  exact ⟨rfl, b2⟩

set_option maxHeartbeats 2000000 in
set_option maxRecDepth 100000 in
theorem rescue_blank (q : Option Addr) (c : Nat) (w : World) (hv : View w (.slice q 768 c) 768 1 (bv zeros)) :
    Calls Tryz.prog 7 #[.slice q 768 c] w fun e w' => e = .returned (.tuple #[.slice none 0 0, .int .i64 0, .int .i64 55]) ∧ Below w.heap.size w w' := by
  have h55 : ((55 : Int) != 0) = true := by decide
  go_enter Tryz.func7, Tryz.ntmps7
  go_wp2_with (first | go_skip | (go_at_call 8; with_reducible refine stK ?_))
  refine ⟨(lay_ok q 768 c 3 zeros w hv (by decide +kernel) (by decide) (by decide) (by decide)).mono ?_⟩
  rintro e W1 ⟨bb, q', c', cs, rfl, B1, lb, himg, b1⟩
  have i1 : ∀ k, (Value.slice q' 768 c').ownBlock = some k → k < W1.heap.size := fun k hk => by have := himg k hk; have := B1.lt; omega
  go_wp2_with (first | go_skip | (go_at_call 9; with_reducible refine stK ?_))
  refine ⟨(slot_zeros bb 0 cs q' c' W1 B1 i1 (by decide)).mono ?_⟩
  rintro e W2 ⟨cs2, rfl, B2, g2⟩
  have i2 : ∀ k, (Value.slice q' 768 c').ownBlock = some k → k < W2.heap.size := fun k hk => by have := i1 k hk; have := g2.size; omega
  go_wp2_with (first | go_skip | (go_at_call 9; with_reducible refine stK ?_))
  refine ⟨(slot_zeros bb 1 cs2 q' c' W2 B2 i2 (by decide)).mono ?_⟩
  rintro e W3 ⟨cs3, rfl, B3, g3⟩
  have i3 : ∀ k, (Value.slice q' 768 c').ownBlock = some k → k < W3.heap.size := fun k hk => by have := i2 k hk; have := g3.size; omega
  go_wp2_with (first | go_skip | (go_at_call 14; with_reducible refine stK ?_))
  refine ⟨(settle_blank bb cs3 q' 768 c' zeros W3 B3 (by decide) zeros_blank0 zeros_blank1 i3).mono ?_⟩
  rintro e W4 ⟨cs4, rfl, B4, g4⟩
  have b2 : Below w.heap.size w W4 := b1.grown (grownBy_trans (grownBy_trans g2 g3) g4) b1.size (fun k hk => by cases hk; exact lb)
  go_wp2
  go_ret3
  exact ⟨rfl, b2⟩

set_option maxHeartbeats 2000000 in
set_option maxRecDepth 100000 in
theorem mend_blank (q : Option Addr) (c : Nat) (w : World) (hv : View w (.slice q 768 c) 768 1 (bv zeros)) :
    Calls Tryz.prog 4 #[.slice q 768 c] w fun e w' => e = .returned (.tuple #[.slice none 0 0, .slice none 0 0, .int .i64 55]) ∧ Below w.heap.size w w' := by
  have h55 : ((55 : Int) != 0) = true := by decide
  go_enter Tryz.func4, Tryz.ntmps4
  go_wp2_with (first | go_skip | (go_at_call 8; with_reducible refine stK ?_))
  refine ⟨(lay_ok q 768 c 3 zeros w hv (by decide +kernel) (by decide) (by decide) (by decide)).mono ?_⟩
  rintro e W1 ⟨bb, q', c', cs, rfl, B1, lb, himg, b1⟩
  have i1 : ∀ k, (Value.slice q' 768 c').ownBlock = some k → k < W1.heap.size := fun k hk => by have := himg k hk; have := B1.lt; omega
  go_wp2
  go_loopw [19] (fun i wr => ∃ (k : Nat) (cs' : Array Value), k ≤ 2 ∧ i = .int .i64 k ∧ BenchIs wr bb cs' q' 768 c' zeros ∧ W1.grownBy wr (some bb)) (fun i _ => 2 - (intOf i).toNat)
  case atStart => exact ⟨0, cs, by omega, rfl, B1, grownBy_refl _ _⟩
  case round =>
    obtain ⟨k, cs', hk, rfl, B, g⟩ := hrel
    have i2 : ∀ k, (Value.slice q' 768 c').ownBlock = some k → k < wr.heap.size := fun k hk => by have := i1 k hk; have := g.size; omega
    by_cases hlt : k < 2
    · go_wp2_with (first | go_skip | (go_at_call 9; with_reducible refine stK ?_))
      refine ⟨(slot_zeros bb k cs' q' c' wr B i2 hlt).mono ?_⟩
      rintro e W2 ⟨cs2, rfl, B2, g2⟩
      have g3 := grownBy_trans g g2
      clear B g g2 i2
      go_wp2
      go_roundw
      case rel => exact ⟨k + 1, cs2, by omega, by go_num, B2, g3⟩
      case measure => simp [intOf]; omega
    · have hk2 : k = 2 := by omega
      subst hk2
      go_wp2_with (first | go_skip | (go_at_call 10; with_reducible refine stK ?_))
      refine ⟨(choose_blank' bb cs' q' 768 c' zeros wr B (by decide) zeros_blank0 zeros_blank1).mono ?_⟩
      rintro e W2 ⟨cs2, rfl, B2, g2⟩
      have b2 : Below w.heap.size w W2 := b1.grown (grownBy_trans g g2) b1.size (fun k hk => by cases hk; exact lb)
      go_wp2
      go_ret3
      exact ⟨rfl, b2⟩
end Go.Proofs.YtjnfijnfjblbnaaGreatDoor
