/- Walks: the program's EncodeRequest, kind by kind. Printed by gen_desk.py. -/
import Derived.Test.YtmedbedpgbbdgaaDoorDeskWalks3
namespace Go.Proofs.YtmedbedpgbbdgaaDoor
open Go.RowKit
set_option linter.unusedVariables false

theorem lowZ_8 (x : Int) : lowZ (x % 18446744073709551616) 8 = lowZ x 8 := by
  have h0 : x % 18446744073709551616 % 256 = x % 256 := by omega
  have h1 : x % 18446744073709551616 / 256 % 256 = x / 256 % 256 := by omega
  have h2 : x % 18446744073709551616 / 256 / 256 % 256 = x / 256 / 256 % 256 := by omega
  have h3 : x % 18446744073709551616 / 256 / 256 / 256 % 256 = x / 256 / 256 / 256 % 256 := by omega
  have h4 : x % 18446744073709551616 / 256 / 256 / 256 / 256 % 256 = x / 256 / 256 / 256 / 256 % 256 := by omega
  have h5 : x % 18446744073709551616 / 256 / 256 / 256 / 256 / 256 % 256 = x / 256 / 256 / 256 / 256 / 256 % 256 := by omega
  have h6 : x % 18446744073709551616 / 256 / 256 / 256 / 256 / 256 / 256 % 256 = x / 256 / 256 / 256 / 256 / 256 / 256 % 256 := by omega
  have h7 : x % 18446744073709551616 / 256 / 256 / 256 / 256 / 256 / 256 / 256 % 256 = x / 256 / 256 / 256 / 256 / 256 / 256 / 256 % 256 := by omega
  simp only [lowZ, h0, h1, h2, h3, h4, h5, h6, h7]

theorem lowZ_4 (x : Int) : lowZ (x % 18446744073709551616) 4 = lowZ x 4 := by
  have h0 : x % 18446744073709551616 % 256 = x % 256 := by omega
  have h1 : x % 18446744073709551616 / 256 % 256 = x / 256 % 256 := by omega
  have h2 : x % 18446744073709551616 / 256 / 256 % 256 = x / 256 / 256 % 256 := by omega
  have h3 : x % 18446744073709551616 / 256 / 256 / 256 % 256 = x / 256 / 256 / 256 % 256 := by omega
  simp only [lowZ, h0, h1, h2, h3]

set_option maxHeartbeats 1000000 in
theorem enc_ok_1 (ver oth lim : Int) (pk ph pb : Option Addr) (nk ck nh ch nb cb : Nat) (key high batch : List UInt8) (w : World) (hb0 : View w (.slice pb nb cb) nb 1 (bv batch)) (hb1 : nb ≤ 11999)
    (hg : 2 < w.heap.size) (hs : Cells w 2 6 [.bool true, .bool false, .bool false, .bool false, .bool false, .bool false]) :
    Calls Tryd.prog 7 #[.agg #[.int .i64 1, .int .i64 ver, .int .i64 oth, .int .i64 lim, .slice pk nk ck, .slice ph nh ch, .slice pb nb cb]] w fun e w' => ∃ p n c, e = .returned (.tuple #[.slice p n c, .int .i64 0]) ∧ w'.ownsRow w.heap.size 5 1 (.slice p n c) n (bv ([1] ++ batch.take nb)) ∧ Below w.heap.size w w' := by
  have hb2 : decide (11999 < nb) = false := by simp; omega
  go_enter Tryd.func7, Tryd.ntmps7
  go_wp2_with (with_reducible refine stB 24 ?_)
  refine ⟨bx rfl 24 (.tmp 0) rfl (v := .agg #[.int .i64 1, .int .i64 ver, .int .i64 oth, .int .i64 lim, .slice pk nk ck, .slice ph nh ch, .slice pb nb cb]) rfl ?_⟩
  intro W1 z1 h1 b1
  simp only [Value.cells] at h1
  obtain ⟨cA, fA⟩ := live h1
  have HA := Lib.hid h1
  clear h1
  go_wp2_with (first | (go_at_call 15; go_in) | (with_reducible refine stL 45 ?_))
  refine ⟨ldRow rfl 45 (.tmp 12) rfl rfl _ (hs.below hg b1) Tryd.underlying45 rfl (by kernel_rfl) ?_⟩
  go_wp2_with (with_reducible refine stAl 45 ?_)
  refine ⟨al rfl 45 rfl (z := .agg #[.bool false, .bool false, .bool false, .bool false, .bool false, .bool false]) (by kernel_rfl) ?_⟩
  intro W2 z2 h2 b2
  simp only [Value.cells] at h2
  rw [z1] at h2 b2
  have HA2 := Lib.hid ((b2.block w.heap.size (by omega)).trans HA.out)
  clear cA fA HA
  obtain ⟨cA, fA⟩ := live HA2.out
  go_wp2_with (with_reducible refine stW 45 ?_)
  refine ⟨stRow rfl 45 (.tmp 4) (.tmp 13) rfl rfl h2 rfl (by kernel_rfl) rfl (by simp [Value.oneCell']) ?_⟩
  clear h2
  intro W3 z3 h3 g3
  have HA3 := Lib.hid ((g3.block w.heap.size (by omega) (by simp)).trans HA2.out)
  clear cA fA HA2
  obtain ⟨cA, fA⟩ := live HA3.out
  obtain ⟨cF, fF⟩ := live h3
  have HF3 := Lib.hid h3
  clear h3
  have b3 : Below w.heap.size w W3 := (b1.trans (b2.mono (by omega))).grown g3 (by omega) (by simp)
  have y3 : W3.heap.size = w.heap.size + 2 := by omega
  clear z2 z3 g3 b1 b2
  go_wp2_with (first | (go_at_call 16; with_reducible refine stK ?_) | (with_reducible refine stA ?_))
  refine ⟨appB sk22 rfl (.tmp 57) (.tmp 59) rfl (w.heap.size + 2) (v := .slice (some ⟨w.heap.size + 2, 0, none⟩) 1 1) rfl rfl (own_lit1 W3 5 (w.heap.size + 2) 1 (w.heap.size + 2) (by omega) (by omega)) ((hb0.below b3).alloc _) (by simp; omega) (1 + nb) (by simp) (by omega) ([1] ++ batch.take nb) rfl ?_⟩
  intro p4 c4 W4 ho4 hg4
  have HA4 := Lib.hid (hg4.old (own_lit1 W3 5 (w.heap.size + 2) 1 (w.heap.size + 2) (by omega) (by omega)) (by omega) ((Below.heap_alloc W3 _ _ (by omega)).trans HA3.out))
  have HF4 := Lib.hid (hg4.old (own_lit1 W3 5 (w.heap.size + 2) 1 (w.heap.size + 2) (by omega) (by omega)) (by omega) ((Below.heap_alloc W3 _ _ (by omega)).trans HF3.out))
  clear cA fA cF fF
  obtain ⟨cA, fA⟩ := live HA4.out
  obtain ⟨cF, fF⟩ := live HF4.out
  have b4 : Below w.heap.size w W4 := below_own (b3.alloc (by omega) _) hg4 (own_low (own_lit1 W3 5 (w.heap.size + 2) 1 (w.heap.size + 2) (by omega) (by omega)) (by omega)) (by simp; omega)
  have y4 : w.heap.size + 2 ≤ W4.heap.size := by have := hg4.by_.size; simp at this; omega
  go_wp2
  go_ret2
  exact ⟨p4, 1 + nb, c4, rfl, own_low ho4 (by omega), b4⟩

set_option maxHeartbeats 1000000 in
theorem enc_ok_2 (ver oth lim : Int) (pk ph pb : Option Addr) (nk ck nh ch nb cb : Nat) (key high batch : List UInt8) (w : World) (hk0 : View w (.slice pk nk ck) nk 1 (bv key)) (hk1 : nk = 32)
    (hg : 2 < w.heap.size) (hs : Cells w 2 12 [.bool false, .bool true, .bool false, .bool true, .bool false, .bool false]) :
    Calls Tryd.prog 7 #[.agg #[.int .i64 2, .int .i64 ver, .int .i64 oth, .int .i64 lim, .slice pk nk ck, .slice ph nh ch, .slice pb nb cb]] w fun e w' => ∃ p n c, e = .returned (.tuple #[.slice p n c, .int .i64 0]) ∧ w'.ownsRow w.heap.size 5 1 (.slice p n c) n (bv ([2] ++ key.take 32 ++ lowZ ver 8)) ∧ Below w.heap.size w w' := by
  subst hk1
  go_enter Tryd.func7, Tryd.ntmps7
  go_wp2_with (with_reducible refine stB 24 ?_)
  refine ⟨bx rfl 24 (.tmp 0) rfl (v := .agg #[.int .i64 2, .int .i64 ver, .int .i64 oth, .int .i64 lim, .slice pk 32 ck, .slice ph nh ch, .slice pb nb cb]) rfl ?_⟩
  intro W1 z1 h1 b1
  simp only [Value.cells] at h1
  obtain ⟨cA, fA⟩ := live h1
  have HA := Lib.hid h1
  clear h1
  go_wp2_with (first | (go_at_call 15; go_in) | (with_reducible refine stL 45 ?_))
  refine ⟨ldRow rfl 45 (.tmp 12) rfl rfl _ (hs.below hg b1) Tryd.underlying45 rfl (by kernel_rfl) ?_⟩
  go_wp2_with (with_reducible refine stAl 45 ?_)
  refine ⟨al rfl 45 rfl (z := .agg #[.bool false, .bool false, .bool false, .bool false, .bool false, .bool false]) (by kernel_rfl) ?_⟩
  intro W2 z2 h2 b2
  simp only [Value.cells] at h2
  rw [z1] at h2 b2
  have HA2 := Lib.hid ((b2.block w.heap.size (by omega)).trans HA.out)
  clear cA fA HA
  obtain ⟨cA, fA⟩ := live HA2.out
  go_wp2_with (with_reducible refine stW 45 ?_)
  refine ⟨stRow rfl 45 (.tmp 4) (.tmp 13) rfl rfl h2 rfl (by kernel_rfl) rfl (by simp [Value.oneCell']) ?_⟩
  clear h2
  intro W3 z3 h3 g3
  have HA3 := Lib.hid ((g3.block w.heap.size (by omega) (by simp)).trans HA2.out)
  clear cA fA HA2
  obtain ⟨cA, fA⟩ := live HA3.out
  obtain ⟨cF, fF⟩ := live h3
  have HF3 := Lib.hid h3
  clear h3
  have b3 : Below w.heap.size w W3 := (b1.trans (b2.mono (by omega))).grown g3 (by omega) (by simp)
  have y3 : W3.heap.size = w.heap.size + 2 := by omega
  clear z2 z3 g3 b1 b2
  go_wp2_with (first | (go_at_call 16; with_reducible refine stK ?_) | (with_reducible refine stA ?_))
  refine ⟨appB sk22 rfl (.tmp 63) (.tmp 65) rfl (w.heap.size + 2) (v := .slice (some ⟨w.heap.size + 2, 0, none⟩) 1 1) rfl rfl (own_lit1 W3 5 (w.heap.size + 2) 2 (w.heap.size + 2) (by omega) (by omega)) ((hk0.below b3).alloc _) (by simp; omega) (33) (by simp) (by omega) ([2] ++ key.take 32) rfl ?_⟩
  intro p4 c4 W4 ho4 hg4
  have HA4 := Lib.hid (hg4.old (own_lit1 W3 5 (w.heap.size + 2) 2 (w.heap.size + 2) (by omega) (by omega)) (by omega) ((Below.heap_alloc W3 _ _ (by omega)).trans HA3.out))
  have HF4 := Lib.hid (hg4.old (own_lit1 W3 5 (w.heap.size + 2) 2 (w.heap.size + 2) (by omega) (by omega)) (by omega) ((Below.heap_alloc W3 _ _ (by omega)).trans HF3.out))
  clear cA fA cF fF
  obtain ⟨cA, fA⟩ := live HA4.out
  obtain ⟨cF, fF⟩ := live HF4.out
  have b4 : Below w.heap.size w W4 := below_own (b3.alloc (by omega) _) hg4 (own_low (own_lit1 W3 5 (w.heap.size + 2) 2 (w.heap.size + 2) (by omega) (by omega)) (by omega)) (by simp; omega)
  have y4 : w.heap.size + 2 ≤ W4.heap.size := by have := hg4.by_.size; simp at this; omega
  go_wp2_with (first | (go_at_call 16; with_reducible refine stK ?_) | (with_reducible refine stA ?_))
  refine ⟨(low_spec (.slice p4 (33) c4) (33) ([2] ++ key.take 32) (w.heap.size + 2) (ver % 18446744073709551616) 8 _ (by omega) (by omega) ho4 y4 (by omega)).mono ?_⟩
  rintro e W5 ⟨p5, c5, rfl, hg5, ho5⟩
  rw [lowZ_8] at ho5
  have HA5 := Lib.hid (hg5.old ho4 (by omega) (HA4.out))
  have HF5 := Lib.hid (hg5.old ho4 (by omega) (HF4.out))
  clear cA fA cF fF
  obtain ⟨cA, fA⟩ := live HA5.out
  obtain ⟨cF, fF⟩ := live HF5.out
  have b5 : Below w.heap.size w W5 := below_own b4 hg5 (own_low ho4 (by omega)) (by omega)
  have y5 : w.heap.size + 2 ≤ W5.heap.size := by have := hg5.by_.size; omega
  go_wp2
  go_ret2
  exact ⟨p5, 41, c5, rfl, own_low ho5 (by omega), b5⟩

set_option maxHeartbeats 1000000 in
theorem enc_ok_3 (ver oth lim : Int) (pk ph pb : Option Addr) (nk ck nh ch nb cb : Nat) (key high batch : List UInt8) (w : World)
    (hg : 2 < w.heap.size) (hs : Cells w 2 18 [.bool false, .bool false, .bool false, .bool true, .bool false, .bool false]) :
    Calls Tryd.prog 7 #[.agg #[.int .i64 3, .int .i64 ver, .int .i64 oth, .int .i64 lim, .slice pk nk ck, .slice ph nh ch, .slice pb nb cb]] w fun e w' => ∃ p n c, e = .returned (.tuple #[.slice p n c, .int .i64 0]) ∧ w'.ownsRow w.heap.size 5 1 (.slice p n c) n (bv ([3] ++ lowZ ver 8)) ∧ Below w.heap.size w w' := by
  go_enter Tryd.func7, Tryd.ntmps7
  go_wp2_with (with_reducible refine stB 24 ?_)
  refine ⟨bx rfl 24 (.tmp 0) rfl (v := .agg #[.int .i64 3, .int .i64 ver, .int .i64 oth, .int .i64 lim, .slice pk nk ck, .slice ph nh ch, .slice pb nb cb]) rfl ?_⟩
  intro W1 z1 h1 b1
  simp only [Value.cells] at h1
  obtain ⟨cA, fA⟩ := live h1
  have HA := Lib.hid h1
  clear h1
  go_wp2_with (first | (go_at_call 15; go_in) | (with_reducible refine stL 45 ?_))
  refine ⟨ldRow rfl 45 (.tmp 12) rfl rfl _ (hs.below hg b1) Tryd.underlying45 rfl (by kernel_rfl) ?_⟩
  go_wp2_with (with_reducible refine stAl 45 ?_)
  refine ⟨al rfl 45 rfl (z := .agg #[.bool false, .bool false, .bool false, .bool false, .bool false, .bool false]) (by kernel_rfl) ?_⟩
  intro W2 z2 h2 b2
  simp only [Value.cells] at h2
  rw [z1] at h2 b2
  have HA2 := Lib.hid ((b2.block w.heap.size (by omega)).trans HA.out)
  clear cA fA HA
  obtain ⟨cA, fA⟩ := live HA2.out
  go_wp2_with (with_reducible refine stW 45 ?_)
  refine ⟨stRow rfl 45 (.tmp 4) (.tmp 13) rfl rfl h2 rfl (by kernel_rfl) rfl (by simp [Value.oneCell']) ?_⟩
  clear h2
  intro W3 z3 h3 g3
  have HA3 := Lib.hid ((g3.block w.heap.size (by omega) (by simp)).trans HA2.out)
  clear cA fA HA2
  obtain ⟨cA, fA⟩ := live HA3.out
  obtain ⟨cF, fF⟩ := live h3
  have HF3 := Lib.hid h3
  clear h3
  have b3 : Below w.heap.size w W3 := (b1.trans (b2.mono (by omega))).grown g3 (by omega) (by simp)
  have y3 : W3.heap.size = w.heap.size + 2 := by omega
  clear z2 z3 g3 b1 b2
  go_wp2_with (first | (go_at_call 16; with_reducible refine stK ?_) | (with_reducible refine stA ?_))
  refine ⟨(low_spec (.slice (some ⟨w.heap.size + 2, 0, none⟩) 1 1) (1) ([3]) (w.heap.size + 2) (ver % 18446744073709551616) 8 _ (by omega) (by omega) (own_lit1 W3 5 (w.heap.size + 2) 3 (w.heap.size + 2) (by omega) (by omega)) (by simp; omega) (by omega)).mono ?_⟩
  rintro e W4 ⟨p4, c4, rfl, hg4, ho4⟩
  rw [lowZ_8] at ho4
  have HA4 := Lib.hid (hg4.old (own_lit1 W3 5 (w.heap.size + 2) 3 (w.heap.size + 2) (by omega) (by omega)) (by omega) ((Below.heap_alloc W3 _ _ (by omega)).trans HA3.out))
  have HF4 := Lib.hid (hg4.old (own_lit1 W3 5 (w.heap.size + 2) 3 (w.heap.size + 2) (by omega) (by omega)) (by omega) ((Below.heap_alloc W3 _ _ (by omega)).trans HF3.out))
  clear cA fA cF fF
  obtain ⟨cA, fA⟩ := live HA4.out
  obtain ⟨cF, fF⟩ := live HF4.out
  have b4 : Below w.heap.size w W4 := below_own (b3.alloc (by omega) _) hg4 (own_low (own_lit1 W3 5 (w.heap.size + 2) 3 (w.heap.size + 2) (by omega) (by omega)) (by omega)) (by simp; omega)
  have y4 : w.heap.size + 2 ≤ W4.heap.size := by have := hg4.by_.size; simp at this; omega
  go_wp2
  go_ret2
  exact ⟨p4, 9, c4, rfl, own_low ho4 (by omega), b4⟩

set_option maxHeartbeats 1000000 in
theorem enc_ok_4 (ver oth lim : Int) (pk ph pb : Option Addr) (nk ck nh ch nb cb : Nat) (key high batch : List UInt8) (w : World) (hk0 : View w (.slice pk nk ck) nk 1 (bv key)) (hk1 : nk = 32)
    (hg : 2 < w.heap.size) (hs : Cells w 2 24 [.bool false, .bool true, .bool false, .bool true, .bool false, .bool false]) :
    Calls Tryd.prog 7 #[.agg #[.int .i64 4, .int .i64 ver, .int .i64 oth, .int .i64 lim, .slice pk nk ck, .slice ph nh ch, .slice pb nb cb]] w fun e w' => ∃ p n c, e = .returned (.tuple #[.slice p n c, .int .i64 0]) ∧ w'.ownsRow w.heap.size 5 1 (.slice p n c) n (bv ([4] ++ key.take 32 ++ lowZ ver 8)) ∧ Below w.heap.size w w' := by
  subst hk1
  go_enter Tryd.func7, Tryd.ntmps7
  go_wp2_with (with_reducible refine stB 24 ?_)
  refine ⟨bx rfl 24 (.tmp 0) rfl (v := .agg #[.int .i64 4, .int .i64 ver, .int .i64 oth, .int .i64 lim, .slice pk 32 ck, .slice ph nh ch, .slice pb nb cb]) rfl ?_⟩
  intro W1 z1 h1 b1
  simp only [Value.cells] at h1
  obtain ⟨cA, fA⟩ := live h1
  have HA := Lib.hid h1
  clear h1
  go_wp2_with (first | (go_at_call 15; go_in) | (with_reducible refine stL 45 ?_))
  refine ⟨ldRow rfl 45 (.tmp 12) rfl rfl _ (hs.below hg b1) Tryd.underlying45 rfl (by kernel_rfl) ?_⟩
  go_wp2_with (with_reducible refine stAl 45 ?_)
  refine ⟨al rfl 45 rfl (z := .agg #[.bool false, .bool false, .bool false, .bool false, .bool false, .bool false]) (by kernel_rfl) ?_⟩
  intro W2 z2 h2 b2
  simp only [Value.cells] at h2
  rw [z1] at h2 b2
  have HA2 := Lib.hid ((b2.block w.heap.size (by omega)).trans HA.out)
  clear cA fA HA
  obtain ⟨cA, fA⟩ := live HA2.out
  go_wp2_with (with_reducible refine stW 45 ?_)
  refine ⟨stRow rfl 45 (.tmp 4) (.tmp 13) rfl rfl h2 rfl (by kernel_rfl) rfl (by simp [Value.oneCell']) ?_⟩
  clear h2
  intro W3 z3 h3 g3
  have HA3 := Lib.hid ((g3.block w.heap.size (by omega) (by simp)).trans HA2.out)
  clear cA fA HA2
  obtain ⟨cA, fA⟩ := live HA3.out
  obtain ⟨cF, fF⟩ := live h3
  have HF3 := Lib.hid h3
  clear h3
  have b3 : Below w.heap.size w W3 := (b1.trans (b2.mono (by omega))).grown g3 (by omega) (by simp)
  have y3 : W3.heap.size = w.heap.size + 2 := by omega
  clear z2 z3 g3 b1 b2
  go_wp2_with (first | (go_at_call 16; with_reducible refine stK ?_) | (with_reducible refine stA ?_))
  refine ⟨appB sk22 rfl (.tmp 63) (.tmp 65) rfl (w.heap.size + 2) (v := .slice (some ⟨w.heap.size + 2, 0, none⟩) 1 1) rfl rfl (own_lit1 W3 5 (w.heap.size + 2) 4 (w.heap.size + 2) (by omega) (by omega)) ((hk0.below b3).alloc _) (by simp; omega) (33) (by simp) (by omega) ([4] ++ key.take 32) rfl ?_⟩
  intro p4 c4 W4 ho4 hg4
  have HA4 := Lib.hid (hg4.old (own_lit1 W3 5 (w.heap.size + 2) 4 (w.heap.size + 2) (by omega) (by omega)) (by omega) ((Below.heap_alloc W3 _ _ (by omega)).trans HA3.out))
  have HF4 := Lib.hid (hg4.old (own_lit1 W3 5 (w.heap.size + 2) 4 (w.heap.size + 2) (by omega) (by omega)) (by omega) ((Below.heap_alloc W3 _ _ (by omega)).trans HF3.out))
  clear cA fA cF fF
  obtain ⟨cA, fA⟩ := live HA4.out
  obtain ⟨cF, fF⟩ := live HF4.out
  have b4 : Below w.heap.size w W4 := below_own (b3.alloc (by omega) _) hg4 (own_low (own_lit1 W3 5 (w.heap.size + 2) 4 (w.heap.size + 2) (by omega) (by omega)) (by omega)) (by simp; omega)
  have y4 : w.heap.size + 2 ≤ W4.heap.size := by have := hg4.by_.size; simp at this; omega
  go_wp2_with (first | (go_at_call 16; with_reducible refine stK ?_) | (with_reducible refine stA ?_))
  refine ⟨(low_spec (.slice p4 (33) c4) (33) ([4] ++ key.take 32) (w.heap.size + 2) (ver % 18446744073709551616) 8 _ (by omega) (by omega) ho4 y4 (by omega)).mono ?_⟩
  rintro e W5 ⟨p5, c5, rfl, hg5, ho5⟩
  rw [lowZ_8] at ho5
  have HA5 := Lib.hid (hg5.old ho4 (by omega) (HA4.out))
  have HF5 := Lib.hid (hg5.old ho4 (by omega) (HF4.out))
  clear cA fA cF fF
  obtain ⟨cA, fA⟩ := live HA5.out
  obtain ⟨cF, fF⟩ := live HF5.out
  have b5 : Below w.heap.size w W5 := below_own b4 hg5 (own_low ho4 (by omega)) (by omega)
  have y5 : w.heap.size + 2 ≤ W5.heap.size := by have := hg5.by_.size; omega
  go_wp2
  go_ret2
  exact ⟨p5, 41, c5, rfl, own_low ho5 (by omega), b5⟩

set_option maxHeartbeats 1000000 in
theorem enc_ok_5 (ver oth lim : Int) (pk ph pb : Option Addr) (nk ck nh ch nb cb : Nat) (key high batch : List UInt8) (w : World) (hk0 : View w (.slice pk nk ck) nk 1 (bv key)) (hk1 : nk = 32) (hh0 : View w (.slice ph nh ch) nh 1 (bv high)) (hh1 : nh = 32)
    (hg : 2 < w.heap.size) (hs : Cells w 2 30 [.bool false, .bool true, .bool true, .bool true, .bool false, .bool false]) :
    Calls Tryd.prog 7 #[.agg #[.int .i64 5, .int .i64 ver, .int .i64 oth, .int .i64 lim, .slice pk nk ck, .slice ph nh ch, .slice pb nb cb]] w fun e w' => ∃ p n c, e = .returned (.tuple #[.slice p n c, .int .i64 0]) ∧ w'.ownsRow w.heap.size 5 1 (.slice p n c) n (bv ([5] ++ key.take 32 ++ high.take 32 ++ lowZ ver 8)) ∧ Below w.heap.size w w' := by
  subst hk1
  subst hh1
  go_enter Tryd.func7, Tryd.ntmps7
  go_wp2_with (with_reducible refine stB 24 ?_)
  refine ⟨bx rfl 24 (.tmp 0) rfl (v := .agg #[.int .i64 5, .int .i64 ver, .int .i64 oth, .int .i64 lim, .slice pk 32 ck, .slice ph 32 ch, .slice pb nb cb]) rfl ?_⟩
  intro W1 z1 h1 b1
  simp only [Value.cells] at h1
  obtain ⟨cA, fA⟩ := live h1
  have HA := Lib.hid h1
  clear h1
  go_wp2_with (first | (go_at_call 15; go_in) | (with_reducible refine stL 45 ?_))
  refine ⟨ldRow rfl 45 (.tmp 12) rfl rfl _ (hs.below hg b1) Tryd.underlying45 rfl (by kernel_rfl) ?_⟩
  go_wp2_with (with_reducible refine stAl 45 ?_)
  refine ⟨al rfl 45 rfl (z := .agg #[.bool false, .bool false, .bool false, .bool false, .bool false, .bool false]) (by kernel_rfl) ?_⟩
  intro W2 z2 h2 b2
  simp only [Value.cells] at h2
  rw [z1] at h2 b2
  have HA2 := Lib.hid ((b2.block w.heap.size (by omega)).trans HA.out)
  clear cA fA HA
  obtain ⟨cA, fA⟩ := live HA2.out
  go_wp2_with (with_reducible refine stW 45 ?_)
  refine ⟨stRow rfl 45 (.tmp 4) (.tmp 13) rfl rfl h2 rfl (by kernel_rfl) rfl (by simp [Value.oneCell']) ?_⟩
  clear h2
  intro W3 z3 h3 g3
  have HA3 := Lib.hid ((g3.block w.heap.size (by omega) (by simp)).trans HA2.out)
  clear cA fA HA2
  obtain ⟨cA, fA⟩ := live HA3.out
  obtain ⟨cF, fF⟩ := live h3
  have HF3 := Lib.hid h3
  clear h3
  have b3 : Below w.heap.size w W3 := (b1.trans (b2.mono (by omega))).grown g3 (by omega) (by simp)
  have y3 : W3.heap.size = w.heap.size + 2 := by omega
  clear z2 z3 g3 b1 b2
  go_wp2_with (first | (go_at_call 16; with_reducible refine stK ?_) | (with_reducible refine stA ?_))
  refine ⟨appB sk22 rfl (.tmp 63) (.tmp 65) rfl (w.heap.size + 2) (v := .slice (some ⟨w.heap.size + 2, 0, none⟩) 1 1) rfl rfl (own_lit1 W3 5 (w.heap.size + 2) 5 (w.heap.size + 2) (by omega) (by omega)) ((hk0.below b3).alloc _) (by simp; omega) (33) (by simp) (by omega) ([5] ++ key.take 32) rfl ?_⟩
  intro p4 c4 W4 ho4 hg4
  have HA4 := Lib.hid (hg4.old (own_lit1 W3 5 (w.heap.size + 2) 5 (w.heap.size + 2) (by omega) (by omega)) (by omega) ((Below.heap_alloc W3 _ _ (by omega)).trans HA3.out))
  have HF4 := Lib.hid (hg4.old (own_lit1 W3 5 (w.heap.size + 2) 5 (w.heap.size + 2) (by omega) (by omega)) (by omega) ((Below.heap_alloc W3 _ _ (by omega)).trans HF3.out))
  clear cA fA cF fF
  obtain ⟨cA, fA⟩ := live HA4.out
  obtain ⟨cF, fF⟩ := live HF4.out
  have b4 : Below w.heap.size w W4 := below_own (b3.alloc (by omega) _) hg4 (own_low (own_lit1 W3 5 (w.heap.size + 2) 5 (w.heap.size + 2) (by omega) (by omega)) (by omega)) (by simp; omega)
  have y4 : w.heap.size + 2 ≤ W4.heap.size := by have := hg4.by_.size; simp at this; omega
  go_wp2_with (first | (go_at_call 16; with_reducible refine stK ?_) | (with_reducible refine stA ?_))
  refine ⟨appB sk22 rfl (.tmp 69) (.tmp 71) rfl (w.heap.size + 2) (v := .slice p4 (33) c4) rfl rfl ho4 (hh0.below b4) y4 (65) (by simp) (by omega) ([5] ++ key.take 32 ++ high.take 32) rfl ?_⟩
  intro p5 c5 W5 ho5 hg5
  have HA5 := Lib.hid (hg5.old ho4 (by omega) (HA4.out))
  have HF5 := Lib.hid (hg5.old ho4 (by omega) (HF4.out))
  clear cA fA cF fF
  obtain ⟨cA, fA⟩ := live HA5.out
  obtain ⟨cF, fF⟩ := live HF5.out
  have b5 : Below w.heap.size w W5 := below_own b4 hg5 (own_low ho4 (by omega)) (by omega)
  have y5 : w.heap.size + 2 ≤ W5.heap.size := by have := hg5.by_.size; omega
  go_wp2_with (first | (go_at_call 16; with_reducible refine stK ?_) | (with_reducible refine stA ?_))
  refine ⟨(low_spec (.slice p5 (65) c5) (65) ([5] ++ key.take 32 ++ high.take 32) (w.heap.size + 2) (ver % 18446744073709551616) 8 _ (by omega) (by omega) ho5 y5 (by omega)).mono ?_⟩
  rintro e W6 ⟨p6, c6, rfl, hg6, ho6⟩
  rw [lowZ_8] at ho6
  have HA6 := Lib.hid (hg6.old ho5 (by omega) (HA5.out))
  have HF6 := Lib.hid (hg6.old ho5 (by omega) (HF5.out))
  clear cA fA cF fF
  obtain ⟨cA, fA⟩ := live HA6.out
  obtain ⟨cF, fF⟩ := live HF6.out
  have b6 : Below w.heap.size w W6 := below_own b5 hg6 (own_low ho5 (by omega)) (by omega)
  have y6 : w.heap.size + 2 ≤ W6.heap.size := by have := hg6.by_.size; omega
  go_wp2
  go_ret2
  exact ⟨p6, 73, c6, rfl, own_low ho6 (by omega), b6⟩

set_option maxHeartbeats 1000000 in
theorem enc_ok_6 (ver oth lim : Int) (pk ph pb : Option Addr) (nk ck nh ch nb cb : Nat) (key high batch : List UInt8) (w : World) (hk0 : View w (.slice pk nk ck) nk 1 (bv key)) (hk1 : nk = 32) (hh0 : View w (.slice ph nh ch) nh 1 (bv high)) (hh1 : nh = 32) (hl0 : 0 ≤ lim) (hl1 : lim ≤ 4294967295)
    (hg : 2 < w.heap.size) (hs : Cells w 2 36 [.bool false, .bool true, .bool true, .bool true, .bool false, .bool true]) :
    Calls Tryd.prog 7 #[.agg #[.int .i64 6, .int .i64 ver, .int .i64 oth, .int .i64 lim, .slice pk nk ck, .slice ph nh ch, .slice pb nb cb]] w fun e w' => ∃ p n c, e = .returned (.tuple #[.slice p n c, .int .i64 0]) ∧ w'.ownsRow w.heap.size 5 1 (.slice p n c) n (bv ([6] ++ key.take 32 ++ high.take 32 ++ lowZ ver 8 ++ lowZ lim 4)) ∧ Below w.heap.size w w' := by
  subst hk1
  subst hh1
  go_enter Tryd.func7, Tryd.ntmps7
  go_wp2_with (with_reducible refine stB 24 ?_)
  refine ⟨bx rfl 24 (.tmp 0) rfl (v := .agg #[.int .i64 6, .int .i64 ver, .int .i64 oth, .int .i64 lim, .slice pk 32 ck, .slice ph 32 ch, .slice pb nb cb]) rfl ?_⟩
  intro W1 z1 h1 b1
  simp only [Value.cells] at h1
  obtain ⟨cA, fA⟩ := live h1
  have HA := Lib.hid h1
  clear h1
  go_wp2_with (first | (go_at_call 15; go_in) | (with_reducible refine stL 45 ?_))
  refine ⟨ldRow rfl 45 (.tmp 12) rfl rfl _ (hs.below hg b1) Tryd.underlying45 rfl (by kernel_rfl) ?_⟩
  go_wp2_with (with_reducible refine stAl 45 ?_)
  refine ⟨al rfl 45 rfl (z := .agg #[.bool false, .bool false, .bool false, .bool false, .bool false, .bool false]) (by kernel_rfl) ?_⟩
  intro W2 z2 h2 b2
  simp only [Value.cells] at h2
  rw [z1] at h2 b2
  have HA2 := Lib.hid ((b2.block w.heap.size (by omega)).trans HA.out)
  clear cA fA HA
  obtain ⟨cA, fA⟩ := live HA2.out
  go_wp2_with (with_reducible refine stW 45 ?_)
  refine ⟨stRow rfl 45 (.tmp 4) (.tmp 13) rfl rfl h2 rfl (by kernel_rfl) rfl (by simp [Value.oneCell']) ?_⟩
  clear h2
  intro W3 z3 h3 g3
  have HA3 := Lib.hid ((g3.block w.heap.size (by omega) (by simp)).trans HA2.out)
  clear cA fA HA2
  obtain ⟨cA, fA⟩ := live HA3.out
  obtain ⟨cF, fF⟩ := live h3
  have HF3 := Lib.hid h3
  clear h3
  have b3 : Below w.heap.size w W3 := (b1.trans (b2.mono (by omega))).grown g3 (by omega) (by simp)
  have y3 : W3.heap.size = w.heap.size + 2 := by omega
  clear z2 z3 g3 b1 b2
  go_wp2_with (first | (go_at_call 16; with_reducible refine stK ?_) | (with_reducible refine stA ?_))
  refine ⟨appB sk22 rfl (.tmp 63) (.tmp 65) rfl (w.heap.size + 2) (v := .slice (some ⟨w.heap.size + 2, 0, none⟩) 1 1) rfl rfl (own_lit1 W3 5 (w.heap.size + 2) 6 (w.heap.size + 2) (by omega) (by omega)) ((hk0.below b3).alloc _) (by simp; omega) (33) (by simp) (by omega) ([6] ++ key.take 32) rfl ?_⟩
  intro p4 c4 W4 ho4 hg4
  have HA4 := Lib.hid (hg4.old (own_lit1 W3 5 (w.heap.size + 2) 6 (w.heap.size + 2) (by omega) (by omega)) (by omega) ((Below.heap_alloc W3 _ _ (by omega)).trans HA3.out))
  have HF4 := Lib.hid (hg4.old (own_lit1 W3 5 (w.heap.size + 2) 6 (w.heap.size + 2) (by omega) (by omega)) (by omega) ((Below.heap_alloc W3 _ _ (by omega)).trans HF3.out))
  clear cA fA cF fF
  obtain ⟨cA, fA⟩ := live HA4.out
  obtain ⟨cF, fF⟩ := live HF4.out
  have b4 : Below w.heap.size w W4 := below_own (b3.alloc (by omega) _) hg4 (own_low (own_lit1 W3 5 (w.heap.size + 2) 6 (w.heap.size + 2) (by omega) (by omega)) (by omega)) (by simp; omega)
  have y4 : w.heap.size + 2 ≤ W4.heap.size := by have := hg4.by_.size; simp at this; omega
  go_wp2_with (first | (go_at_call 16; with_reducible refine stK ?_) | (with_reducible refine stA ?_))
  refine ⟨appB sk22 rfl (.tmp 69) (.tmp 71) rfl (w.heap.size + 2) (v := .slice p4 (33) c4) rfl rfl ho4 (hh0.below b4) y4 (65) (by simp) (by omega) ([6] ++ key.take 32 ++ high.take 32) rfl ?_⟩
  intro p5 c5 W5 ho5 hg5
  have HA5 := Lib.hid (hg5.old ho4 (by omega) (HA4.out))
  have HF5 := Lib.hid (hg5.old ho4 (by omega) (HF4.out))
  clear cA fA cF fF
  obtain ⟨cA, fA⟩ := live HA5.out
  obtain ⟨cF, fF⟩ := live HF5.out
  have b5 : Below w.heap.size w W5 := below_own b4 hg5 (own_low ho4 (by omega)) (by omega)
  have y5 : w.heap.size + 2 ≤ W5.heap.size := by have := hg5.by_.size; omega
  go_wp2_with (first | (go_at_call 16; with_reducible refine stK ?_) | (with_reducible refine stA ?_))
  refine ⟨(low_spec (.slice p5 (65) c5) (65) ([6] ++ key.take 32 ++ high.take 32) (w.heap.size + 2) (ver % 18446744073709551616) 8 _ (by omega) (by omega) ho5 y5 (by omega)).mono ?_⟩
  rintro e W6 ⟨p6, c6, rfl, hg6, ho6⟩
  rw [lowZ_8] at ho6
  have HA6 := Lib.hid (hg6.old ho5 (by omega) (HA5.out))
  have HF6 := Lib.hid (hg6.old ho5 (by omega) (HF5.out))
  clear cA fA cF fF
  obtain ⟨cA, fA⟩ := live HA6.out
  obtain ⟨cF, fF⟩ := live HF6.out
  have b6 : Below w.heap.size w W6 := below_own b5 hg6 (own_low ho5 (by omega)) (by omega)
  have y6 : w.heap.size + 2 ≤ W6.heap.size := by have := hg6.by_.size; omega
  go_wp2_with (first | (go_at_call 16; with_reducible refine stK ?_) | (with_reducible refine stA ?_))
  refine ⟨(low_spec (.slice p6 (73) c6) (73) ([6] ++ key.take 32 ++ high.take 32 ++ lowZ ver 8) (w.heap.size + 2) (lim) 4 _ (by omega) (by omega) ho6 y6 (by omega)).mono ?_⟩
  rintro e W7 ⟨p7, c7, rfl, hg7, ho7⟩
  have HA7 := Lib.hid (hg7.old ho6 (by omega) (HA6.out))
  have HF7 := Lib.hid (hg7.old ho6 (by omega) (HF6.out))
  clear cA fA cF fF
  obtain ⟨cA, fA⟩ := live HA7.out
  obtain ⟨cF, fF⟩ := live HF7.out
  have b7 : Below w.heap.size w W7 := below_own b6 hg7 (own_low ho6 (by omega)) (by omega)
  have y7 : w.heap.size + 2 ≤ W7.heap.size := by have := hg7.by_.size; omega
  go_wp2
  go_ret2
  exact ⟨p7, 77, c7, rfl, own_low ho7 (by omega), b7⟩

set_option maxHeartbeats 1000000 in
theorem enc_ok_7 (ver oth lim : Int) (pk ph pb : Option Addr) (nk ck nh ch nb cb : Nat) (key high batch : List UInt8) (w : World)
    (hg : 2 < w.heap.size) (hs : Cells w 2 42 [.bool false, .bool false, .bool false, .bool true, .bool true, .bool false]) :
    Calls Tryd.prog 7 #[.agg #[.int .i64 7, .int .i64 ver, .int .i64 oth, .int .i64 lim, .slice pk nk ck, .slice ph nh ch, .slice pb nb cb]] w fun e w' => ∃ p n c, e = .returned (.tuple #[.slice p n c, .int .i64 0]) ∧ w'.ownsRow w.heap.size 5 1 (.slice p n c) n (bv ([7] ++ lowZ ver 8 ++ lowZ oth 8)) ∧ Below w.heap.size w w' := by
  go_enter Tryd.func7, Tryd.ntmps7
  go_wp2_with (with_reducible refine stB 24 ?_)
  refine ⟨bx rfl 24 (.tmp 0) rfl (v := .agg #[.int .i64 7, .int .i64 ver, .int .i64 oth, .int .i64 lim, .slice pk nk ck, .slice ph nh ch, .slice pb nb cb]) rfl ?_⟩
  intro W1 z1 h1 b1
  simp only [Value.cells] at h1
  obtain ⟨cA, fA⟩ := live h1
  have HA := Lib.hid h1
  clear h1
  go_wp2_with (first | (go_at_call 15; go_in) | (with_reducible refine stL 45 ?_))
  refine ⟨ldRow rfl 45 (.tmp 12) rfl rfl _ (hs.below hg b1) Tryd.underlying45 rfl (by kernel_rfl) ?_⟩
  go_wp2_with (with_reducible refine stAl 45 ?_)
  refine ⟨al rfl 45 rfl (z := .agg #[.bool false, .bool false, .bool false, .bool false, .bool false, .bool false]) (by kernel_rfl) ?_⟩
  intro W2 z2 h2 b2
  simp only [Value.cells] at h2
  rw [z1] at h2 b2
  have HA2 := Lib.hid ((b2.block w.heap.size (by omega)).trans HA.out)
  clear cA fA HA
  obtain ⟨cA, fA⟩ := live HA2.out
  go_wp2_with (with_reducible refine stW 45 ?_)
  refine ⟨stRow rfl 45 (.tmp 4) (.tmp 13) rfl rfl h2 rfl (by kernel_rfl) rfl (by simp [Value.oneCell']) ?_⟩
  clear h2
  intro W3 z3 h3 g3
  have HA3 := Lib.hid ((g3.block w.heap.size (by omega) (by simp)).trans HA2.out)
  clear cA fA HA2
  obtain ⟨cA, fA⟩ := live HA3.out
  obtain ⟨cF, fF⟩ := live h3
  have HF3 := Lib.hid h3
  clear h3
  have b3 : Below w.heap.size w W3 := (b1.trans (b2.mono (by omega))).grown g3 (by omega) (by simp)
  have y3 : W3.heap.size = w.heap.size + 2 := by omega
  clear z2 z3 g3 b1 b2
  go_wp2_with (first | (go_at_call 16; with_reducible refine stK ?_) | (with_reducible refine stA ?_))
  refine ⟨(low_spec (.slice (some ⟨w.heap.size + 2, 0, none⟩) 1 1) (1) ([7]) (w.heap.size + 2) (ver % 18446744073709551616) 8 _ (by omega) (by omega) (own_lit1 W3 5 (w.heap.size + 2) 7 (w.heap.size + 2) (by omega) (by omega)) (by simp; omega) (by omega)).mono ?_⟩
  rintro e W4 ⟨p4, c4, rfl, hg4, ho4⟩
  rw [lowZ_8] at ho4
  have HA4 := Lib.hid (hg4.old (own_lit1 W3 5 (w.heap.size + 2) 7 (w.heap.size + 2) (by omega) (by omega)) (by omega) ((Below.heap_alloc W3 _ _ (by omega)).trans HA3.out))
  have HF4 := Lib.hid (hg4.old (own_lit1 W3 5 (w.heap.size + 2) 7 (w.heap.size + 2) (by omega) (by omega)) (by omega) ((Below.heap_alloc W3 _ _ (by omega)).trans HF3.out))
  clear cA fA cF fF
  obtain ⟨cA, fA⟩ := live HA4.out
  obtain ⟨cF, fF⟩ := live HF4.out
  have b4 : Below w.heap.size w W4 := below_own (b3.alloc (by omega) _) hg4 (own_low (own_lit1 W3 5 (w.heap.size + 2) 7 (w.heap.size + 2) (by omega) (by omega)) (by omega)) (by simp; omega)
  have y4 : w.heap.size + 2 ≤ W4.heap.size := by have := hg4.by_.size; simp at this; omega
  go_wp2_with (first | (go_at_call 16; with_reducible refine stK ?_) | (with_reducible refine stA ?_))
  refine ⟨(low_spec (.slice p4 (9) c4) (9) ([7] ++ lowZ ver 8) (w.heap.size + 2) (oth % 18446744073709551616) 8 _ (by omega) (by omega) ho4 y4 (by omega)).mono ?_⟩
  rintro e W5 ⟨p5, c5, rfl, hg5, ho5⟩
  rw [lowZ_8] at ho5
  have HA5 := Lib.hid (hg5.old ho4 (by omega) (HA4.out))
  have HF5 := Lib.hid (hg5.old ho4 (by omega) (HF4.out))
  clear cA fA cF fF
  obtain ⟨cA, fA⟩ := live HA5.out
  obtain ⟨cF, fF⟩ := live HF5.out
  have b5 : Below w.heap.size w W5 := below_own b4 hg5 (own_low ho4 (by omega)) (by omega)
  have y5 : w.heap.size + 2 ≤ W5.heap.size := by have := hg5.by_.size; omega
  go_wp2
  go_ret2
  exact ⟨p5, 17, c5, rfl, own_low ho5 (by omega), b5⟩

set_option maxHeartbeats 1000000 in
theorem enc_ok_8 (ver oth lim : Int) (pk ph pb : Option Addr) (nk ck nh ch nb cb : Nat) (key high batch : List UInt8) (w : World)
    (hg : 2 < w.heap.size) (hs : Cells w 2 48 [.bool false, .bool false, .bool false, .bool false, .bool false, .bool false]) :
    Calls Tryd.prog 7 #[.agg #[.int .i64 8, .int .i64 ver, .int .i64 oth, .int .i64 lim, .slice pk nk ck, .slice ph nh ch, .slice pb nb cb]] w fun e w' => ∃ p n c, e = .returned (.tuple #[.slice p n c, .int .i64 0]) ∧ w'.ownsRow w.heap.size 5 1 (.slice p n c) n (bv ([8])) ∧ Below w.heap.size w w' := by
  go_enter Tryd.func7, Tryd.ntmps7
  go_wp2_with (with_reducible refine stB 24 ?_)
  refine ⟨bx rfl 24 (.tmp 0) rfl (v := .agg #[.int .i64 8, .int .i64 ver, .int .i64 oth, .int .i64 lim, .slice pk nk ck, .slice ph nh ch, .slice pb nb cb]) rfl ?_⟩
  intro W1 z1 h1 b1
  simp only [Value.cells] at h1
  obtain ⟨cA, fA⟩ := live h1
  have HA := Lib.hid h1
  clear h1
  go_wp2_with (first | (go_at_call 15; go_in) | (with_reducible refine stL 45 ?_))
  refine ⟨ldRow rfl 45 (.tmp 12) rfl rfl _ (hs.below hg b1) Tryd.underlying45 rfl (by kernel_rfl) ?_⟩
  go_wp2_with (with_reducible refine stAl 45 ?_)
  refine ⟨al rfl 45 rfl (z := .agg #[.bool false, .bool false, .bool false, .bool false, .bool false, .bool false]) (by kernel_rfl) ?_⟩
  intro W2 z2 h2 b2
  simp only [Value.cells] at h2
  rw [z1] at h2 b2
  have HA2 := Lib.hid ((b2.block w.heap.size (by omega)).trans HA.out)
  clear cA fA HA
  obtain ⟨cA, fA⟩ := live HA2.out
  go_wp2_with (with_reducible refine stW 45 ?_)
  refine ⟨stRow rfl 45 (.tmp 4) (.tmp 13) rfl rfl h2 rfl (by kernel_rfl) rfl (by simp [Value.oneCell']) ?_⟩
  clear h2
  intro W3 z3 h3 g3
  have HA3 := Lib.hid ((g3.block w.heap.size (by omega) (by simp)).trans HA2.out)
  clear cA fA HA2
  obtain ⟨cA, fA⟩ := live HA3.out
  obtain ⟨cF, fF⟩ := live h3
  have HF3 := Lib.hid h3
  clear h3
  have b3 : Below w.heap.size w W3 := (b1.trans (b2.mono (by omega))).grown g3 (by omega) (by simp)
  have y3 : W3.heap.size = w.heap.size + 2 := by omega
  clear z2 z3 g3 b1 b2
  go_wp2
  go_ret2
  exact ⟨_, 1, 1, rfl, own_low (own_lit1 W3 5 (w.heap.size + 2) 8 (w.heap.size + 2) (by omega) (by omega)) (by omega), b3.alloc (by omega) _⟩

set_option maxHeartbeats 1000000 in
theorem enc_ok_9 (ver oth lim : Int) (pk ph pb : Option Addr) (nk ck nh ch nb cb : Nat) (key high batch : List UInt8) (w : World)
    (hg : 2 < w.heap.size) (hs : Cells w 2 54 [.bool false, .bool false, .bool false, .bool false, .bool false, .bool false]) :
    Calls Tryd.prog 7 #[.agg #[.int .i64 9, .int .i64 ver, .int .i64 oth, .int .i64 lim, .slice pk nk ck, .slice ph nh ch, .slice pb nb cb]] w fun e w' => ∃ p n c, e = .returned (.tuple #[.slice p n c, .int .i64 0]) ∧ w'.ownsRow w.heap.size 5 1 (.slice p n c) n (bv ([9])) ∧ Below w.heap.size w w' := by
  go_enter Tryd.func7, Tryd.ntmps7
  go_wp2_with (with_reducible refine stB 24 ?_)
  refine ⟨bx rfl 24 (.tmp 0) rfl (v := .agg #[.int .i64 9, .int .i64 ver, .int .i64 oth, .int .i64 lim, .slice pk nk ck, .slice ph nh ch, .slice pb nb cb]) rfl ?_⟩
  intro W1 z1 h1 b1
  simp only [Value.cells] at h1
  obtain ⟨cA, fA⟩ := live h1
  have HA := Lib.hid h1
  clear h1
  go_wp2_with (first | (go_at_call 15; go_in) | (with_reducible refine stL 45 ?_))
  refine ⟨ldRow rfl 45 (.tmp 12) rfl rfl _ (hs.below hg b1) Tryd.underlying45 rfl (by kernel_rfl) ?_⟩
  go_wp2_with (with_reducible refine stAl 45 ?_)
  refine ⟨al rfl 45 rfl (z := .agg #[.bool false, .bool false, .bool false, .bool false, .bool false, .bool false]) (by kernel_rfl) ?_⟩
  intro W2 z2 h2 b2
  simp only [Value.cells] at h2
  rw [z1] at h2 b2
  have HA2 := Lib.hid ((b2.block w.heap.size (by omega)).trans HA.out)
  clear cA fA HA
  obtain ⟨cA, fA⟩ := live HA2.out
  go_wp2_with (with_reducible refine stW 45 ?_)
  refine ⟨stRow rfl 45 (.tmp 4) (.tmp 13) rfl rfl h2 rfl (by kernel_rfl) rfl (by simp [Value.oneCell']) ?_⟩
  clear h2
  intro W3 z3 h3 g3
  have HA3 := Lib.hid ((g3.block w.heap.size (by omega) (by simp)).trans HA2.out)
  clear cA fA HA2
  obtain ⟨cA, fA⟩ := live HA3.out
  obtain ⟨cF, fF⟩ := live h3
  have HF3 := Lib.hid h3
  clear h3
  have b3 : Below w.heap.size w W3 := (b1.trans (b2.mono (by omega))).grown g3 (by omega) (by simp)
  have y3 : W3.heap.size = w.heap.size + 2 := by omega
  clear z2 z3 g3 b1 b2
  go_wp2
  go_ret2
  exact ⟨_, 1, 1, rfl, own_low (own_lit1 W3 5 (w.heap.size + 2) 9 (w.heap.size + 2) (by omega) (by omega)) (by omega), b3.alloc (by omega) _⟩

end Go.Proofs.YtmedbedpgbbdgaaDoor
