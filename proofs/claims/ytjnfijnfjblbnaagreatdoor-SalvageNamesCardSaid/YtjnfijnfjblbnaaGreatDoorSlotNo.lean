/- Walks: a slot that cannot be mended. Printed by gen_slot.py. -/
import Derived.Test.YtjnfijnfjblbnaaGreatDoorBench
import Derived.Deep.RegionHeld3
namespace Go.Proofs.YtjnfijnfjblbnaaGreatDoor
open Go.RowKit Go.Maps
set_option linter.unusedVariables false

theorem run_cut64 (q : Option Addr) (c : Nat) (h : 64 ≤ c) (w : World) : (Instr.sliceAt 22 (.slice q 256 c) none (some (.int .i64 64)) none).run Tryz.prog w = .ok (.slice q 64 c) w := by
  obtain ⟨i, hi', hz, hs1, hs2⟩ := skB.hi
  have hb : (Instr.sliceBounds true 256 c none (some (.int .i64 64)) none).run Tryz.prog w = .ok (0, 64, c) w := run_bounds_h .i64 256 c 64 h
  have : Option.map (fun q : Addr => q.add 0) q = q := by cases q <;> simp [Addr.add]
  simp [Instr.sliceAt, Instr.slice, run_underlying skB.ht, hb, sizeOf, typeInfo, hi', hs1, this]

set_option maxHeartbeats 2000000 in
set_option maxRecDepth 100000 in
theorem slot_no (bb : Nat) (cs : Array Value) (q : Option Addr) (n c p : Nat) (l : List UInt8) (w : World) (hB : BenchIs w bb cs q n c l) (himg : ∀ k, (Value.slice q n c).ownBlock = some k → k < w.heap.size) (hp : 256 * (p + 1) ≤ n)
    (hs : Crc.syn (((l.drop (256 * p)).take 256).take 64) 60 ≠ 0) (hno : Crc.last (Crc.pairs 60) (Crc.syn (((l.drop (256 * p)).take 256).take 64) 60) = none) :
    Calls Tryz.prog 9 #[.pointer (some ⟨bb, 0, none⟩), .int .i64 p] w fun e w' => ∃ cs', e = .returned (.bool false) ∧ BenchIs w' bb cs' q n c l ∧ w.grownBy w' (some bb) := by
  have hbb := hB.lt
  obtain ⟨pg, hpg⟩ : ∃ pg, pg = (l.drop (256 * p)).take 256 := ⟨_, rfl⟩
  rw [← hpg] at hs hno
  have hpl : pg.length = 256 := by
    have := hB.2.2.2.2.1
    rw [hpg]
    simp
    omega
  have hnb := hB.2.2.2.2.2.1
  have HPG := Lib.hid hpg
  clear hpg
  have hnot : ∀ (x : Bool) (w : World), (Op.unary .not (.bool x)).run Tryz.prog w = .ok (.bool (!x)) w := fun _ _ => rfl
  go_enter Tryz.func9, Tryz.ntmps9
  go_wp2_with (first | go_skip | (go_at_call 15; with_reducible refine stK ?_))
  refine ⟨(page_spec bb cs q n c p l w hB hp).mono ?_⟩
  rintro e w' ⟨q', c', rfl, V, hk, rfl⟩
  rw [← HPG.out] at V
  have hV : ∀ k, (Value.slice q' 256 c').ownBlock = some k → k < w'.heap.size := fun k h => himg k (hk k h)
  have hVn : ∀ k, (Value.slice q' 256 c').ownBlock = some k → k ≠ bb := fun k h => hnb k (hk k h)
  have hcap := V.cap
  have G0 : w'.grownBy w' (some bb) := grownBy_refl _ _
  have B0 := hB
  have V_0 := V
  go_wp2_with (first | go_skip | (go_at_call 16; with_reducible refine stK ?_))
  refine ⟨(unpackSuper_sum q' c' pg w' V_0 hpl hs).mono ?_⟩
  rintro e1 W1 ⟨rfl, b1⟩
  have B1 := B0.below b1
  have G1 := grownBy_below G0 b1
  have V_1 := V_0.below b1
  have y1 := G1.size
  simp only [zSuper]
  go_wp2_with (first | go_skip | (with_reducible refine stAl 40 ?_))
  refine ⟨al rfl 40 rfl (z := zSuper) (by kernel_rfl) ?_⟩
  intro W2 z2 h2 b2
  simp only [Value.cells, zSuper] at h2
  have B2 := B1.below b2
  have G2 := grownBy_below G1 b2
  have V_2 := V_1.below b2
  have y2 := G2.size
  have H2_2 := Lib.hid h2
  clear h2
  obtain ⟨c2, f2⟩ := live H2_2.out
  go_wp2_with (first | go_skip | (with_reducible refine stW 40 ?_))
  refine ⟨stRow rfl 40 (.tmp 7) (.tmp 23) rfl (b := W1.heap.size) (c' := #[.int .i64 0, .int .i64 0, .int .i64 0, .int .i64 0, .int .i64 0]) rfl H2_2.out rfl (by kernel_rfl) rfl (by kernel_rfl) ?_⟩
  intro W3 z3 h3 g3
  clear c2 f2
  have B3 := B2.other g3 (by omega) (fun j hj => by have := himg j hj; omega) ⟨_, _, H2_2.out⟩
  have G3 := grownBy_new G2 g3 (by omega)
  have V_3 := V_2.grown g3 (fun j hj e => by have := hV j hj; simp at e; omega)
  have H2_3 := Lib.hid h3
  clear h3
  have y3 := G3.size
  obtain ⟨c2, f2⟩ := live H2_3.out
  have hcut := fun w => run_cut64 q' c' (by omega) w
  have hno52 : ((52 : Int) != 0) = true := by decide
  go_wp2
  have TN := turn_no bb 10 60 64 c' q' (pg.take 64) cs _ W3.drew B3.drew.1 B3.drew.2.2.2.2.2.2.2 (by decide) (by decide) (V_3.drew.pre 64 (by omega) (by omega)) (by simp [hpl]) (by decide) hno
  go_region_held3 (fun _ => True) (exact trivial)
    (first | (go_at_call 17; refine TN.mono ?_; rintro e W4 ⟨rfl, t4⟩))
  clear c2 f2
  obtain ⟨cs4, B4, g4⟩ := B3.drew.slots t4
  have H2_4 := Lib.hid (keep g4 (w := W3.drew) H2_3.out (by omega))
  have G4 : w'.grownBy W4 (some bb) := grownBy_trans G3 ⟨g4.os, g4.tape, g4.output, g4.size, g4.block⟩
  have V_4 : View W4 (.slice q' 256 c') 256 1 (bv pg) := V_3.drew.grown g4 (fun j hj e => hVn j hj (by simpa using e))
  have y4 := G4.size
  obtain ⟨c2, f2⟩ := live H2_4.out
  clear TN
  go_wp2_with (first | go_skip | (go_at_call 16; with_reducible refine stK ?_))
  refine ⟨(unpackSuper_sum q' c' pg W4 V_4 hpl hs).mono ?_⟩
  rintro e5 W5 ⟨rfl, b5⟩
  clear c2 f2
  have H2_5 := Lib.hid ((b5.block W1.heap.size (Array.getElem?_eq_some_iff.1 H2_4.out).1).trans H2_4.out)
  have B5 := B4.below b5
  have G5 := grownBy_below G4 b5
  have V_5 := V_4.below b5
  have y5 := G5.size
  simp only [zSuper]
  obtain ⟨c2, f2⟩ := live H2_5.out
  go_wp2_with (first | go_skip | (with_reducible refine stAl 40 ?_))
  refine ⟨al rfl 40 rfl (z := zSuper) (by kernel_rfl) ?_⟩
  intro W6 z6 h6 b6
  simp only [Value.cells, zSuper] at h6
  clear c2 f2
  have o2_6 : W1.heap.size < W5.heap.size := (Array.getElem?_eq_some_iff.1 H2_5.out).1
  have H2_6 := Lib.hid ((b6.block W1.heap.size (Array.getElem?_eq_some_iff.1 H2_5.out).1).trans H2_5.out)
  have B6 := B5.below b6
  have G6 := grownBy_below G5 b6
  have V_6 := V_5.below b6
  have y6 := G6.size
  have H6_6 := Lib.hid h6
  clear h6
  obtain ⟨c2, f2⟩ := live H2_6.out
  obtain ⟨c6, f6⟩ := live H6_6.out
  go_wp2_with (first | go_skip | (with_reducible refine stW 40 ?_))
  refine ⟨stRow rfl 40 (.tmp 13) (.tmp 49) rfl (b := W5.heap.size) (c' := #[.int .i64 0, .int .i64 0, .int .i64 0, .int .i64 0, .int .i64 0]) rfl H6_6.out rfl (by kernel_rfl) rfl (by kernel_rfl) ?_⟩
  intro W7 z7 h7 g7
  clear c2 f2 c6 f6
  have H2_7 := Lib.hid (keep g7 H2_6.out (by omega))
  have B7 := B6.other g7 (by omega) (fun j hj => by have := himg j hj; omega) ⟨_, _, H6_6.out⟩
  have G7 := grownBy_new G6 g7 (by omega)
  have V_7 := V_6.grown g7 (fun j hj e => by have := hV j hj; simp at e; omega)
  have H6_7 := Lib.hid h7
  clear h7
  have y7 := G7.size
  obtain ⟨c2, f2⟩ := live H2_7.out
  obtain ⟨c6, f6⟩ := live H6_7.out
  go_wp2
  go_ret
  exact ⟨cs4, rfl, B7, G7⟩
end Go.Proofs.YtjnfijnfjblbnaaGreatDoor
