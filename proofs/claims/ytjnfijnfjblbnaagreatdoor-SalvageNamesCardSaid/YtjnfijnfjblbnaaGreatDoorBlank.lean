/- Walks: a bench whose slots are both blank; the four calls on such an image. -/
import Derived.Test.YtjnfijnfjblbnaaGreatDoorSlotNo
import Derived.BigQuiet
import Derived.Deep.QuietTactic
namespace Go.Proofs.YtjnfijnfjblbnaaGreatDoor
open Go.RowKit Go.Maps
set_option linter.unusedVariables false

/-- The first sector of the page p is zeros. -/
def Blank (l : List UInt8) (p : Nat) : Prop := ((l.drop (256 * p)).take 256).take 64 = List.replicate 64 0

set_option maxHeartbeats 2000000 in
set_option maxRecDepth 100000 in
theorem choose_blank' (bb : Nat) (cs : Array Value) (q : Option Addr) (n c : Nat) (l : List UInt8) (w : World) (hB : BenchIs w bb cs q n c l) (hn : 512 ≤ n) (h0 : Blank l 0) (h1 : Blank l 1) :
    Calls Tryz.prog 10 #[.pointer (some ⟨bb, 0, none⟩)] w fun e w' => ∃ cs', e = .returned (.int .i64 55) ∧ BenchIs w' bb cs' q n c l ∧ w.grownBy w' (some bb) := by
  have hll := hB.2.2.2.2.1
  have l0 : ((l.drop (256 * 0)).take 256).length = 256 := by simp; omega
  have l1 : ((l.drop (256 * 1)).take 256).length = 256 := by simp; omega
  have HLL := Lib.hid hll
  clear hll
  go_enter Tryz.func10, Tryz.ntmps10
  go_wp2_with (first | go_skip | (go_at_call 15; with_reducible refine stK ?_))
  refine ⟨(page_spec bb cs q n c 0 l w hB (by omega)).mono ?_⟩
  rintro e w1 ⟨qa, ca, rfl, Va, hka, rfl⟩
  go_wp2_with (first | go_skip | (go_at_call 15; with_reducible refine stK ?_))
  refine ⟨(page_spec bb cs q n c 1 l w1 hB (by omega)).mono ?_⟩
  rintro e w2 ⟨qb, cb, rfl, Vb, hkb, rfl⟩
  go_wp2_with (first | go_skip | (go_at_call 18; with_reducible refine stK ?_))
  refine ⟨(choose_blank qa qb ca cb _ _ w2 Va l0 h0 Vb l1 h1).mono ?_⟩
  rintro e W1 ⟨rfl, b1⟩
  simp only [zSuper]
  have B1 := hB.below b1
  have hsz := B1.2.1
  have G1 := grownBy_below (grownBy_refl w2 (some bb)) b1
  go_wp2_with (first | go_skip | (with_reducible refine stW 40 ?_))
  refine ⟨stMid rfl 40 (.tmp 14) (.tmp 11) rfl (b := bb) (off := 1) (c' := #[.int .i64 0, .int .i64 0, .int .i64 0, .int .i64 0, .int .i64 0]) rfl B1.1 rfl (by kernel_rfl) (by rw [hsz]; decide) (by kernel_rfl) ?_⟩
  intro W2 z2 h2 g2
  have B2 := B1.super _ rfl h2 g2
  have G2 := grownBy_trans G1 g2
  clear h2 g2 z2
  have h55 : ((55 : Int) == 0) = false := by decide
  go_wp2
  go_quiet (fail)
  go_wp2
  go_ret
  exact ⟨_, rfl, B2.below ⟨rfl, rfl, rfl, Nat.le_refl _, fun _ _ => rfl⟩, ⟨G2.os, G2.tape, G2.output, G2.size, G2.block⟩⟩

set_option maxHeartbeats 2000000 in
set_option maxRecDepth 100000 in
theorem settle_blank (bb : Nat) (cs : Array Value) (q : Option Addr) (n c : Nat) (l : List UInt8) (w : World) (hB : BenchIs w bb cs q n c l) (hn : 512 ≤ n) (h0 : Blank l 0) (h1 : Blank l 1) (himg : ∀ k, (Value.slice q n c).ownBlock = some k → k < w.heap.size) :
    Calls Tryz.prog 14 #[.pointer (some ⟨bb, 0, none⟩)] w fun e w' => ∃ cs', e = .returned (.int .i64 55) ∧ BenchIs w' bb cs' q n c l ∧ w.grownBy w' (some bb) := by
  have hll := hB.2.2.2.2.1
  have l0 : ((l.drop (256 * 0)).take 256).length = 256 := by simp; omega
  have l1 : ((l.drop (256 * 1)).take 256).length = 256 := by simp; omega
  have hbb := hB.lt
  have HLL := Lib.hid hll
  clear hll
  go_enter Tryz.func14, Tryz.ntmps14
  go_wp2_with (first | go_skip | (go_at_call 15; with_reducible refine stK ?_))
  refine ⟨(page_spec bb cs q n c 0 l w hB (by omega)).mono ?_⟩
  rintro e w1 ⟨qa, ca, rfl, Va, hka, rfl⟩
  go_wp2_with (first | go_skip | (go_at_call 15; with_reducible refine stK ?_))
  refine ⟨(page_spec bb cs q n c 1 l w1 hB (by omega)).mono ?_⟩
  rintro e w2 ⟨qb, cb, rfl, Vb, hkb, rfl⟩
  go_wp2_with (first | go_skip | (go_at_call 18; with_reducible refine stK ?_))
  refine ⟨(choose_blank qa qb ca cb _ _ w2 Va l0 h0 Vb l1 h1).mono ?_⟩
  rintro e W1 ⟨rfl, b1⟩
  simp only [zSuper]
  have B1 := hB.below b1
  have G1 := grownBy_below (grownBy_refl w2 (some bb)) b1
  have y1 := b1.size
  go_wp2_with (first | go_skip | (with_reducible refine stAl 40 ?_))
  refine ⟨al rfl 40 rfl (z := zSuper) (by kernel_rfl) ?_⟩
  intro W2 z2 p2 b2
  simp only [Value.cells, zSuper] at p2
  have P2 := Lib.hid p2
  have B2 := B1.below b2
  have G2 := grownBy_below G1 b2
  clear p2
  go_wp2_with (first | go_skip | (with_reducible refine stW 40 ?_))
  refine ⟨stRow rfl 40 (.tmp 3) (.tmp 15) rfl (b := W1.heap.size) (c' := #[.int .i64 0, .int .i64 0, .int .i64 0, .int .i64 0, .int .i64 0]) rfl P2.out rfl (by kernel_rfl) rfl (by kernel_rfl) ?_⟩
  intro W3 z3 h3 g3
  have B3 := B2.other g3 (by omega) (fun j hj => by have := himg j hj; omega) ⟨_, _, P2.out⟩
  have G3 := grownBy_new G2 g3 (by omega)
  clear h3 g3
  have h55 : ((55 : Int) != 4) = true := by decide
  go_wp2_with (first | go_skip | (go_at_call 10; with_reducible refine stK ?_))
  refine ⟨(choose_blank' bb cs q n c l W3 B3 hn h0 h1).mono ?_⟩
  rintro e W4 ⟨cs', rfl, B4, G4⟩
  go_wp2
  go_ret
  exact ⟨cs', rfl, B4, grownBy_trans G3 G4⟩
end Go.Proofs.YtjnfijnfjblbnaaGreatDoor
