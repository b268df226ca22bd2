/- Walks: frame: what is refused by its checksum; an empty slot; two blank slots. -/
import Derived.Test.YtjnfijnfjblbnaaGreatDoorCrcWhole
namespace Go.Proofs.YtjnfijnfjblbnaaGreatDoor
open Go.RowKit
set_option linter.unusedVariables false

def zSuper : Value := .agg #[.int .i64 0, .int .i64 0, .int .i64 0, .int .i64 0, .int .i64 0]

set_option maxHeartbeats 1000000 in
set_option maxRecDepth 100000 in
theorem unpackSuper_sum (q : Option Addr) (c : Nat) (l : List UInt8) (w : World) (hv : View w (.slice q 256 c) 256 1 (bv l)) (hl : l.length = 256) (hs : Crc.syn (l.take 64) 60 ≠ 0) :
    Calls Tryz.prog 16 #[.slice q 256 c] w fun e w' => e = .returned (.tuple #[zSuper, .int .i64 52]) ∧ Below w.heap.size w w' := by
  have hcap := hv.cap
  have hv64 : View w (.slice q 64 c) 64 1 (bv (l.take 64)) := hv.pre 64 (by omega) (by omega)
  have HW := whole_spec q 60 c (l.take 64)
  have hd : decide (Crc.syn (l.take 64) 60 = 0) = false := by simpa using hs
  rw [hd] at HW
  go_enter Tryz.func16, Tryz.ntmps16
  go_wp2_with (with_reducible refine stAl 40 ?_)
  refine ⟨al rfl 40 rfl (z := zSuper) (by kernel_rfl) ?_⟩
  intro W1 z1 h1 b1
  simp only [Value.cells, zSuper] at h1
  have H1 := Lib.hid h1
  clear h1
  have hv1 := hv.below b1
  go_wp2_with (with_reducible refine stS ?_)
  refine ⟨slcH skB rfl (.tmp 10) (.const (.int .i64 64)) rfl (y := q) (n := 256) (c := c) rfl 64 rfl (by omega) ?_⟩
  go_wp2_with (first | (go_at_call 26; with_reducible refine stK ?_))
  refine ⟨(HW W1 (hv64.below b1) (by simp [hl])).mono ?_⟩
  rintro e W2 ⟨rfl, b2⟩
  have h2 : W2.heap[w.heap.size]? = _ := (b2.block w.heap.size (by omega)).trans H1.out
  have hnot : ∀ (x : Bool) (w : World), (Op.unary .not (.bool x)).run Tryz.prog w = .ok (.bool (!x)) w := fun _ _ => rfl
  go_wp2_with (with_reducible refine stW 40 ?_)
  refine ⟨stRow rfl 40 (.tmp 2) (.tmp 14) rfl (b := w.heap.size) (c' := #[.int .i64 0, .int .i64 0, .int .i64 0, .int .i64 0, .int .i64 0]) rfl h2 rfl (by kernel_rfl) rfl (by kernel_rfl) ?_⟩
  intro W3 z3 h3 g3
  obtain ⟨cA, fA⟩ := live h3
  clear h2 h3
  go_wp2
  exact bodyPost_ret (v := .tuple #[zSuper, .int .i64 52]) (by simp [results, Tryz.results16, go_sem, cA, zSuper]) rfl ⟨rfl, (b1.trans (b2.mono (by omega))).grown g3 (by have := b2.size; omega) (fun k hk => by cases hk; exact Nat.le_refl _)⟩

def zeros64 : List Value := List.replicate 64 (.int .u8 0)

set_option maxHeartbeats 1000000 in
set_option maxRecDepth 100000 in
/-- A slot whose first sector is zeros. -/
theorem empty_yes (q : Option Addr) (c : Nat) (l : List UInt8) (w : World) (hv : View w (.slice q 256 c) 256 1 (bv l)) (hl : l.length = 256) (hs : l.take 64 = List.replicate 64 0) :
    Calls Tryz.prog 34 #[.slice q 256 c] w fun e w' => e = .returned (.bool true) ∧ w' = w := by
  have hcap := hv.cap
  have hv64 : View w (.slice q 64 c) 64 1 (bv (l.take 64)) := hv.pre 64 (by omega) (by omega)
  rw [hs] at hv64
  obtain ⟨b, off, rfl, hb, hc⟩ := hv64.some (by decide)
  have harr := fun w => run_arr (P := Tryz.prog) Tryz.underlying80 (some ⟨b, off, none⟩) 64 c (Nat.le_refl _) w
  go_enter Tryz.func34, Tryz.ntmps34
  go_wp2_with (first | go_skip | (with_reducible refine stSg ?_))
  refine ⟨slcH skB rfl (.tmp 7) (.const (.int .i64 64)) rfl (y := some ⟨b, off, none⟩) (n := 256) (c := c) rfl 64 rfl (by omega) ?_⟩
  go_wp2_with (first | go_skip | (with_reducible refine stLg 80 ?_))
  refine ⟨ldRow rfl 80 (.tmp 9) rfl rfl (bv (List.replicate 64 0)) hc Tryz.underlying80 rfl (by kernel_rfl) ?_⟩
  go_wp2_with (first | go_skip | (with_reducible refine stEg 80 ?_))
  refine ⟨bin rfl .eql _ _ _ _ rfl (v := .bool true) rfl rfl (by kernel_rfl) (by kernel_rfl) ?_⟩
  go_wp2
  go_ret
  exact ⟨rfl, rfl⟩

theorem syn_zeros : Crc.syn (List.replicate 64 0) 60 ≠ 0 := by decide +kernel

set_option maxHeartbeats 1000000 in
set_option maxRecDepth 100000 in
/-- Two blank slots. -/
theorem choose_blank (q r : Option Addr) (c d : Nat) (l m : List UInt8) (w : World) (hv : View w (.slice q 256 c) 256 1 (bv l)) (hl : l.length = 256) (hs : l.take 64 = List.replicate 64 0)
    (hv' : View w (.slice r 256 d) 256 1 (bv m)) (hl' : m.length = 256) (hs' : m.take 64 = List.replicate 64 0) :
    Calls Tryz.prog 18 #[.slice q 256 c, .slice r 256 d] w fun e w' => e = .returned (.tuple #[zSuper, .int .i64 55]) ∧ Below w.heap.size w w' := by
  have hnot : ∀ (x : Bool) (w : World), (Op.unary .not (.bool x)).run Tryz.prog w = .ok (.bool (!x)) w := fun _ _ => rfl
  go_enter Tryz.func18, Tryz.ntmps18
  have bb0 : Below w.heap.size w w := Below.refl _ _
  go_wp2_with (first | go_skip | (with_reducible refine stAl 40 ?_))
  refine ⟨al rfl 40 rfl (z := zSuper) (by kernel_rfl) ?_⟩
  intro W1 z1 h1 b1
  simp only [Value.cells, zSuper] at h1
  have H1_1 := Lib.hid h1
  clear h1
  have bb1 : Below w.heap.size w W1 := bb0.trans (b1.mono (by have := bb0.size; omega))
  have y1 := bb1.size
  obtain ⟨c1, f1⟩ := live H1_1.out
  go_wp2_with (first | go_skip | (go_at_call 16; with_reducible refine stK ?_))
  refine ⟨(unpackSuper_sum q c l W1 (hv.below bb1) hl (by rw [hs]; exact syn_zeros)).mono ?_⟩
  rintro e2 W2 ⟨rfl, b2⟩
  clear c1 f1
  have z2 := b2.size
  have H1_2 := Lib.hid ((b2.block w.heap.size (by omega)).trans H1_1.out)
  have bb2 : Below w.heap.size w W2 := bb1.trans (b2.mono (by omega))
  have y2 := bb2.size
  simp only [zSuper]
  obtain ⟨c1, f1⟩ := live H1_2.out
  go_wp2_with (first | go_skip | (with_reducible refine stAl 40 ?_))
  refine ⟨al rfl 40 rfl (z := zSuper) (by kernel_rfl) ?_⟩
  intro W3 z3 h3 b3
  simp only [Value.cells, zSuper] at h3
  clear c1 f1
  have H1_3 := Lib.hid ((b3.block w.heap.size (by omega)).trans H1_2.out)
  have H3_3 := Lib.hid h3
  clear h3
  have bb3 : Below w.heap.size w W3 := bb2.trans (b3.mono (by have := bb2.size; omega))
  have y3 := bb3.size
  obtain ⟨c1, f1⟩ := live H1_3.out
  obtain ⟨c3, f3⟩ := live H3_3.out
  go_wp2_with (first | go_skip | (with_reducible refine stW 40 ?_))
  refine ⟨stRow rfl 40 (.tmp 6) (.tmp 13) rfl (b := W2.heap.size) (c' := #[.int .i64 0, .int .i64 0, .int .i64 0, .int .i64 0, .int .i64 0]) rfl H3_3.out rfl (by kernel_rfl) rfl (by kernel_rfl) ?_⟩
  intro W4 z4 h4 g4
  clear c1 f1 c3 f3
  have H1_4 := Lib.hid (keep g4 H1_3.out (by omega))
  have H3_4 := Lib.hid h4
  clear h4
  have bb4 : Below w.heap.size w W4 := bb3.grown g4 (by omega) (fun k hk => by cases hk; omega)
  have y4 := bb4.size
  obtain ⟨c1, f1⟩ := live H1_4.out
  obtain ⟨c3, f3⟩ := live H3_4.out
  go_wp2_with (first | go_skip | (go_at_call 16; with_reducible refine stK ?_))
  refine ⟨(unpackSuper_sum r d m W4 (hv'.below bb4) hl' (by rw [hs']; exact syn_zeros)).mono ?_⟩
  rintro e5 W5 ⟨rfl, b5⟩
  clear c1 f1 c3 f3
  have z5 := b5.size
  have H1_5 := Lib.hid ((b5.block w.heap.size (by omega)).trans H1_4.out)
  have H3_5 := Lib.hid ((b5.block W2.heap.size (by omega)).trans H3_4.out)
  have bb5 : Below w.heap.size w W5 := bb4.trans (b5.mono (by omega))
  have y5 := bb5.size
  simp only [zSuper]
  obtain ⟨c1, f1⟩ := live H1_5.out
  obtain ⟨c3, f3⟩ := live H3_5.out
  go_wp2_with (first | go_skip | (with_reducible refine stAl 40 ?_))
  refine ⟨al rfl 40 rfl (z := zSuper) (by kernel_rfl) ?_⟩
  intro W6 z6 h6 b6
  simp only [Value.cells, zSuper] at h6
  clear c1 f1 c3 f3
  have H1_6 := Lib.hid ((b6.block w.heap.size (by omega)).trans H1_5.out)
  have H3_6 := Lib.hid ((b6.block W2.heap.size (by omega)).trans H3_5.out)
  have H6_6 := Lib.hid h6
  clear h6
  have bb6 : Below w.heap.size w W6 := bb5.trans (b6.mono (by have := bb5.size; omega))
  have y6 := bb6.size
  obtain ⟨c1, f1⟩ := live H1_6.out
  obtain ⟨c3, f3⟩ := live H3_6.out
  obtain ⟨c6, f6⟩ := live H6_6.out
  go_wp2_with (first | go_skip | (with_reducible refine stW 40 ?_))
  refine ⟨stRow rfl 40 (.tmp 8) (.tmp 18) rfl (b := W5.heap.size) (c' := #[.int .i64 0, .int .i64 0, .int .i64 0, .int .i64 0, .int .i64 0]) rfl H6_6.out rfl (by kernel_rfl) rfl (by kernel_rfl) ?_⟩
  intro W7 z7 h7 g7
  clear c1 f1 c3 f3 c6 f6
  have H1_7 := Lib.hid (keep g7 H1_6.out (by omega))
  have H3_7 := Lib.hid (keep g7 H3_6.out (by omega))
  have H6_7 := Lib.hid h7
  clear h7
  have bb7 : Below w.heap.size w W7 := bb6.grown g7 (by omega) (fun k hk => by cases hk; omega)
  have y7 := bb7.size
  obtain ⟨c1, f1⟩ := live H1_7.out
  obtain ⟨c3, f3⟩ := live H3_7.out
  obtain ⟨c6, f6⟩ := live H6_7.out
  go_wp2_with (first | go_skip | (go_at_call 34; with_reducible refine stK ?_))
  refine ⟨(empty_yes r d m W7 (hv'.below bb7) hl' hs').mono ?_⟩
  rintro e w' ⟨rfl, rfl⟩
  go_wp2_with (first | go_skip | (go_at_call 34; with_reducible refine stK ?_))
  refine ⟨(empty_yes q c l _ (hv.below bb7) hl hs).mono ?_⟩
  rintro e w' ⟨rfl, rfl⟩
  go_wp2_with (first | go_skip | (with_reducible refine stW 40 ?_))
  refine ⟨stRow rfl 40 (.tmp 4) (.tmp 48) rfl (b := w.heap.size) (c' := #[.int .i64 0, .int .i64 0, .int .i64 0, .int .i64 0, .int .i64 0]) rfl H1_7.out rfl (by kernel_rfl) rfl (by kernel_rfl) ?_⟩
  intro W8 z8 h8 g8
  clear c1 f1 c3 f3 c6 f6
  have H3_8 := Lib.hid (keep g8 H3_7.out (by omega))
  have H6_8 := Lib.hid (keep g8 H6_7.out (by omega))
  have H1_8 := Lib.hid h8
  clear h8
  have bb8 : Below w.heap.size w W8 := bb7.grown g8 (by omega) (fun k hk => by cases hk; omega)
  have y8 := bb8.size
  obtain ⟨c1, f1⟩ := live H1_8.out
  obtain ⟨c3, f3⟩ := live H3_8.out
  obtain ⟨c6, f6⟩ := live H6_8.out
  go_wp2
  exact bodyPost_ret (v := .tuple #[zSuper, .int .i64 55]) (by simp [results, Tryz.results18, go_sem, c1, zSuper]) rfl ⟨rfl, bb8⟩
end Go.Proofs.YtjnfijnfjblbnaaGreatDoor
