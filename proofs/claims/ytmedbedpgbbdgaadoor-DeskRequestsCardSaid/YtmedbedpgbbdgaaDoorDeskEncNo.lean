/- Walks: the program's EncodeRequest, its refusals. Printed by gen_desk.py. -/
import Derived.Test.YtmedbedpgbbdgaaDoorDeskWalks3
namespace Go.Proofs.YtmedbedpgbbdgaaDoor
open Go.RowKit
set_option linter.unusedVariables false

set_option maxHeartbeats 1000000 in
theorem enc_no (op ver oth lim : Int) (pk ph pb : Option Addr) (nk ck nh ch nb cb : Nat) (w : World) (ho : op < 1 ∨ 9 < op) :
    Calls Tryd.prog 7 #[.agg #[.int .i64 op, .int .i64 ver, .int .i64 oth, .int .i64 lim, .slice pk nk ck, .slice ph nh ch, .slice pb nb cb]] w fun e w' => e = .returned (.tuple #[.slice none 0 0, .int .i64 200]) ∧ Below w.heap.size w w' := by
  rcases ho with ho | ho
  · have q : decide (1 ≤ op) = false := by simp; omega
    go_enter Tryd.func7, Tryd.ntmps7
    go_wp2_with (go_at_call 15; go_in)
    go_ret2
    exact ⟨rfl, (Below.refl _ _).alloc (Nat.le_refl _) _⟩
  · have q : decide (op ≤ 9) = false := by simp; omega
    go_enter Tryd.func7, Tryd.ntmps7
    go_wp2_with (go_at_call 15; go_in)
    go_ret2
    exact ⟨rfl, (Below.refl _ _).alloc (Nat.le_refl _) _⟩

set_option maxHeartbeats 1000000 in
theorem enc_no_1 (ver oth lim : Int) (pk ph pb : Option Addr) (nk ck nh ch nb cb : Nat) (w : World) (h : 11999 < nb)
    (hg : 2 < w.heap.size) (hs : Cells w 2 6 [.bool true, .bool false, .bool false, .bool false, .bool false, .bool false]) :
    Calls Tryd.prog 7 #[.agg #[.int .i64 1, .int .i64 ver, .int .i64 oth, .int .i64 lim, .slice pk nk ck, .slice ph nh ch, .slice pb nb cb]] w fun e w' => e = .returned (.tuple #[.slice none 0 0, .int .i64 200]) ∧ Below w.heap.size w w' := by
  have q : decide (11999 < nb) = true := by simpa using h
  go_enter Tryd.func7, Tryd.ntmps7
  go_wp2_with (with_reducible refine stB 24 ?_)
  refine ⟨bx rfl 24 (.tmp 0) rfl (v := .agg #[.int .i64 1, .int .i64 ver, .int .i64 oth, .int .i64 lim, .slice pk nk ck, .slice ph nh ch, .slice pb nb cb]) rfl ?_⟩
  intro W1 z1 h1 b1
  simp only [Value.cells] at h1
  obtain ⟨cA, fA⟩ := live h1
  have HA := Lib.hid h1
  clear h1
  go_wp2_with (first | (go_at_call 15; go_in) | (with_reducible refine stL 45 ?_))
  refine ⟨ldRow rfl 45 (.tmp 12) rfl rfl _ (hs.below hg b1) Tryd.underlying45 rfl (by kernel_rfl) ?_⟩
  go_wp2_with (with_reducible refine stAl 45 ?_)
  refine ⟨al rfl 45 rfl (z := .agg #[.bool false, .bool false, .bool false, .bool false, .bool false, .bool false]) (by kernel_rfl) ?_⟩
  intro W2 z2 h2 b2
  simp only [Value.cells] at h2
  rw [z1] at h2 b2
  have HA2 := Lib.hid ((b2.block w.heap.size (by omega)).trans HA.out)
  clear cA fA HA
  obtain ⟨cA, fA⟩ := live HA2.out
  go_wp2_with (with_reducible refine stW 45 ?_)
  refine ⟨stRow rfl 45 (.tmp 4) (.tmp 13) rfl rfl h2 rfl (by kernel_rfl) rfl (by simp [Value.oneCell']) ?_⟩
  clear h2
  intro W3 z3 h3 g3
  have HA3 := Lib.hid ((g3.block w.heap.size (by omega) (by simp)).trans HA2.out)
  clear cA fA HA2
  obtain ⟨cA, fA⟩ := live HA3.out
  obtain ⟨cF, fF⟩ := live h3
  have HF3 := Lib.hid h3
  clear h3
  have b3 : Below w.heap.size w W3 := (b1.trans (b2.mono (by omega))).grown g3 (by omega) (by simp)
  clear z1 z2 z3 g3 b1 b2
  go_wp2
  go_ret2
  exact ⟨rfl, b3⟩

set_option maxHeartbeats 1000000 in
theorem enc_no_2k (ver oth lim : Int) (pk ph pb : Option Addr) (nk ck nh ch nb cb : Nat) (w : World) (h : nk ≠ 32)
    (hg : 2 < w.heap.size) (hs : Cells w 2 12 [.bool false, .bool true, .bool false, .bool true, .bool false, .bool false]) :
    Calls Tryd.prog 7 #[.agg #[.int .i64 2, .int .i64 ver, .int .i64 oth, .int .i64 lim, .slice pk nk ck, .slice ph nh ch, .slice pb nb cb]] w fun e w' => e = .returned (.tuple #[.slice none 0 0, .int .i64 200]) ∧ Below w.heap.size w w' := by
  have q : ((nk : Int) != 32) = true := by simp; omega
  go_enter Tryd.func7, Tryd.ntmps7
  go_wp2_with (with_reducible refine stB 24 ?_)
  refine ⟨bx rfl 24 (.tmp 0) rfl (v := .agg #[.int .i64 2, .int .i64 ver, .int .i64 oth, .int .i64 lim, .slice pk nk ck, .slice ph nh ch, .slice pb nb cb]) rfl ?_⟩
  intro W1 z1 h1 b1
  simp only [Value.cells] at h1
  obtain ⟨cA, fA⟩ := live h1
  have HA := Lib.hid h1
  clear h1
  go_wp2_with (first | (go_at_call 15; go_in) | (with_reducible refine stL 45 ?_))
  refine ⟨ldRow rfl 45 (.tmp 12) rfl rfl _ (hs.below hg b1) Tryd.underlying45 rfl (by kernel_rfl) ?_⟩
  go_wp2_with (with_reducible refine stAl 45 ?_)
  refine ⟨al rfl 45 rfl (z := .agg #[.bool false, .bool false, .bool false, .bool false, .bool false, .bool false]) (by kernel_rfl) ?_⟩
  intro W2 z2 h2 b2
  simp only [Value.cells] at h2
  rw [z1] at h2 b2
  have HA2 := Lib.hid ((b2.block w.heap.size (by omega)).trans HA.out)
  clear cA fA HA
  obtain ⟨cA, fA⟩ := live HA2.out
  go_wp2_with (with_reducible refine stW 45 ?_)
  refine ⟨stRow rfl 45 (.tmp 4) (.tmp 13) rfl rfl h2 rfl (by kernel_rfl) rfl (by simp [Value.oneCell']) ?_⟩
  clear h2
  intro W3 z3 h3 g3
  have HA3 := Lib.hid ((g3.block w.heap.size (by omega) (by simp)).trans HA2.out)
  clear cA fA HA2
  obtain ⟨cA, fA⟩ := live HA3.out
  obtain ⟨cF, fF⟩ := live h3
  have HF3 := Lib.hid h3
  clear h3
  have b3 : Below w.heap.size w W3 := (b1.trans (b2.mono (by omega))).grown g3 (by omega) (by simp)
  clear z1 z2 z3 g3 b1 b2
  go_wp2
  go_ret2
  exact ⟨rfl, b3⟩

set_option maxHeartbeats 1000000 in
theorem enc_no_4k (ver oth lim : Int) (pk ph pb : Option Addr) (nk ck nh ch nb cb : Nat) (w : World) (h : nk ≠ 32)
    (hg : 2 < w.heap.size) (hs : Cells w 2 24 [.bool false, .bool true, .bool false, .bool true, .bool false, .bool false]) :
    Calls Tryd.prog 7 #[.agg #[.int .i64 4, .int .i64 ver, .int .i64 oth, .int .i64 lim, .slice pk nk ck, .slice ph nh ch, .slice pb nb cb]] w fun e w' => e = .returned (.tuple #[.slice none 0 0, .int .i64 200]) ∧ Below w.heap.size w w' := by
  have q : ((nk : Int) != 32) = true := by simp; omega
  go_enter Tryd.func7, Tryd.ntmps7
  go_wp2_with (with_reducible refine stB 24 ?_)
  refine ⟨bx rfl 24 (.tmp 0) rfl (v := .agg #[.int .i64 4, .int .i64 ver, .int .i64 oth, .int .i64 lim, .slice pk nk ck, .slice ph nh ch, .slice pb nb cb]) rfl ?_⟩
  intro W1 z1 h1 b1
  simp only [Value.cells] at h1
  obtain ⟨cA, fA⟩ := live h1
  have HA := Lib.hid h1
  clear h1
  go_wp2_with (first | (go_at_call 15; go_in) | (with_reducible refine stL 45 ?_))
  refine ⟨ldRow rfl 45 (.tmp 12) rfl rfl _ (hs.below hg b1) Tryd.underlying45 rfl (by kernel_rfl) ?_⟩
  go_wp2_with (with_reducible refine stAl 45 ?_)
  refine ⟨al rfl 45 rfl (z := .agg #[.bool false, .bool false, .bool false, .bool false, .bool false, .bool false]) (by kernel_rfl) ?_⟩
  intro W2 z2 h2 b2
  simp only [Value.cells] at h2
  rw [z1] at h2 b2
  have HA2 := Lib.hid ((b2.block w.heap.size (by omega)).trans HA.out)
  clear cA fA HA
  obtain ⟨cA, fA⟩ := live HA2.out
  go_wp2_with (with_reducible refine stW 45 ?_)
  refine ⟨stRow rfl 45 (.tmp 4) (.tmp 13) rfl rfl h2 rfl (by kernel_rfl) rfl (by simp [Value.oneCell']) ?_⟩
  clear h2
  intro W3 z3 h3 g3
  have HA3 := Lib.hid ((g3.block w.heap.size (by omega) (by simp)).trans HA2.out)
  clear cA fA HA2
  obtain ⟨cA, fA⟩ := live HA3.out
  obtain ⟨cF, fF⟩ := live h3
  have HF3 := Lib.hid h3
  clear h3
  have b3 : Below w.heap.size w W3 := (b1.trans (b2.mono (by omega))).grown g3 (by omega) (by simp)
  clear z1 z2 z3 g3 b1 b2
  go_wp2
  go_ret2
  exact ⟨rfl, b3⟩

set_option maxHeartbeats 1000000 in
theorem enc_no_5k (ver oth lim : Int) (pk ph pb : Option Addr) (nk ck nh ch nb cb : Nat) (w : World) (h : nk ≠ 32)
    (hg : 2 < w.heap.size) (hs : Cells w 2 30 [.bool false, .bool true, .bool true, .bool true, .bool false, .bool false]) :
    Calls Tryd.prog 7 #[.agg #[.int .i64 5, .int .i64 ver, .int .i64 oth, .int .i64 lim, .slice pk nk ck, .slice ph nh ch, .slice pb nb cb]] w fun e w' => e = .returned (.tuple #[.slice none 0 0, .int .i64 200]) ∧ Below w.heap.size w w' := by
  have q : ((nk : Int) != 32) = true := by simp; omega
  go_enter Tryd.func7, Tryd.ntmps7
  go_wp2_with (with_reducible refine stB 24 ?_)
  refine ⟨bx rfl 24 (.tmp 0) rfl (v := .agg #[.int .i64 5, .int .i64 ver, .int .i64 oth, .int .i64 lim, .slice pk nk ck, .slice ph nh ch, .slice pb nb cb]) rfl ?_⟩
  intro W1 z1 h1 b1
  simp only [Value.cells] at h1
  obtain ⟨cA, fA⟩ := live h1
  have HA := Lib.hid h1
  clear h1
  go_wp2_with (first | (go_at_call 15; go_in) | (with_reducible refine stL 45 ?_))
  refine ⟨ldRow rfl 45 (.tmp 12) rfl rfl _ (hs.below hg b1) Tryd.underlying45 rfl (by kernel_rfl) ?_⟩
  go_wp2_with (with_reducible refine stAl 45 ?_)
  refine ⟨al rfl 45 rfl (z := .agg #[.bool false, .bool false, .bool false, .bool false, .bool false, .bool false]) (by kernel_rfl) ?_⟩
  intro W2 z2 h2 b2
  simp only [Value.cells] at h2
  rw [z1] at h2 b2
  have HA2 := Lib.hid ((b2.block w.heap.size (by omega)).trans HA.out)
  clear cA fA HA
  obtain ⟨cA, fA⟩ := live HA2.out
  go_wp2_with (with_reducible refine stW 45 ?_)
  refine ⟨stRow rfl 45 (.tmp 4) (.tmp 13) rfl rfl h2 rfl (by kernel_rfl) rfl (by simp [Value.oneCell']) ?_⟩
  clear h2
  intro W3 z3 h3 g3
  have HA3 := Lib.hid ((g3.block w.heap.size (by omega) (by simp)).trans HA2.out)
  clear cA fA HA2
  obtain ⟨cA, fA⟩ := live HA3.out
  obtain ⟨cF, fF⟩ := live h3
  have HF3 := Lib.hid h3
  clear h3
  have b3 : Below w.heap.size w W3 := (b1.trans (b2.mono (by omega))).grown g3 (by omega) (by simp)
  clear z1 z2 z3 g3 b1 b2
  go_wp2
  go_ret2
  exact ⟨rfl, b3⟩

set_option maxHeartbeats 1000000 in
theorem enc_no_6k (ver oth lim : Int) (pk ph pb : Option Addr) (nk ck nh ch nb cb : Nat) (w : World) (h : nk ≠ 32)
    (hg : 2 < w.heap.size) (hs : Cells w 2 36 [.bool false, .bool true, .bool true, .bool true, .bool false, .bool true]) :
    Calls Tryd.prog 7 #[.agg #[.int .i64 6, .int .i64 ver, .int .i64 oth, .int .i64 lim, .slice pk nk ck, .slice ph nh ch, .slice pb nb cb]] w fun e w' => e = .returned (.tuple #[.slice none 0 0, .int .i64 200]) ∧ Below w.heap.size w w' := by
  have q : ((nk : Int) != 32) = true := by simp; omega
  go_enter Tryd.func7, Tryd.ntmps7
  go_wp2_with (with_reducible refine stB 24 ?_)
  refine ⟨bx rfl 24 (.tmp 0) rfl (v := .agg #[.int .i64 6, .int .i64 ver, .int .i64 oth, .int .i64 lim, .slice pk nk ck, .slice ph nh ch, .slice pb nb cb]) rfl ?_⟩
  intro W1 z1 h1 b1
  simp only [Value.cells] at h1
  obtain ⟨cA, fA⟩ := live h1
  have HA := Lib.hid h1
  clear h1
  go_wp2_with (first | (go_at_call 15; go_in) | (with_reducible refine stL 45 ?_))
  refine ⟨ldRow rfl 45 (.tmp 12) rfl rfl _ (hs.below hg b1) Tryd.underlying45 rfl (by kernel_rfl) ?_⟩
  go_wp2_with (with_reducible refine stAl 45 ?_)
  refine ⟨al rfl 45 rfl (z := .agg #[.bool false, .bool false, .bool false, .bool false, .bool false, .bool false]) (by kernel_rfl) ?_⟩
  intro W2 z2 h2 b2
  simp only [Value.cells] at h2
  rw [z1] at h2 b2
  have HA2 := Lib.hid ((b2.block w.heap.size (by omega)).trans HA.out)
  clear cA fA HA
  obtain ⟨cA, fA⟩ := live HA2.out
  go_wp2_with (with_reducible refine stW 45 ?_)
  refine ⟨stRow rfl 45 (.tmp 4) (.tmp 13) rfl rfl h2 rfl (by kernel_rfl) rfl (by simp [Value.oneCell']) ?_⟩
  clear h2
  intro W3 z3 h3 g3
  have HA3 := Lib.hid ((g3.block w.heap.size (by omega) (by simp)).trans HA2.out)
  clear cA fA HA2
  obtain ⟨cA, fA⟩ := live HA3.out
  obtain ⟨cF, fF⟩ := live h3
  have HF3 := Lib.hid h3
  clear h3
  have b3 : Below w.heap.size w W3 := (b1.trans (b2.mono (by omega))).grown g3 (by omega) (by simp)
  clear z1 z2 z3 g3 b1 b2
  go_wp2
  go_ret2
  exact ⟨rfl, b3⟩

set_option maxHeartbeats 1000000 in
theorem enc_no_5h (ver oth lim : Int) (pk ph pb : Option Addr) (nk ck nh ch nb cb : Nat) (w : World) (h : nh ≠ 32) (h0 : nk = 32)
    (hg : 2 < w.heap.size) (hs : Cells w 2 30 [.bool false, .bool true, .bool true, .bool true, .bool false, .bool false]) :
    Calls Tryd.prog 7 #[.agg #[.int .i64 5, .int .i64 ver, .int .i64 oth, .int .i64 lim, .slice pk nk ck, .slice ph nh ch, .slice pb nb cb]] w fun e w' => e = .returned (.tuple #[.slice none 0 0, .int .i64 200]) ∧ Below w.heap.size w w' := by
  subst h0
  have q : ((nh : Int) != 32) = true := by simp; omega
  go_enter Tryd.func7, Tryd.ntmps7
  go_wp2_with (with_reducible refine stB 24 ?_)
  refine ⟨bx rfl 24 (.tmp 0) rfl (v := .agg #[.int .i64 5, .int .i64 ver, .int .i64 oth, .int .i64 lim, .slice pk 32 ck, .slice ph nh ch, .slice pb nb cb]) rfl ?_⟩
  intro W1 z1 h1 b1
  simp only [Value.cells] at h1
  obtain ⟨cA, fA⟩ := live h1
  have HA := Lib.hid h1
  clear h1
  go_wp2_with (first | (go_at_call 15; go_in) | (with_reducible refine stL 45 ?_))
  refine ⟨ldRow rfl 45 (.tmp 12) rfl rfl _ (hs.below hg b1) Tryd.underlying45 rfl (by kernel_rfl) ?_⟩
  go_wp2_with (with_reducible refine stAl 45 ?_)
  refine ⟨al rfl 45 rfl (z := .agg #[.bool false, .bool false, .bool false, .bool false, .bool false, .bool false]) (by kernel_rfl) ?_⟩
  intro W2 z2 h2 b2
  simp only [Value.cells] at h2
  rw [z1] at h2 b2
  have HA2 := Lib.hid ((b2.block w.heap.size (by omega)).trans HA.out)
  clear cA fA HA
  obtain ⟨cA, fA⟩ := live HA2.out
  go_wp2_with (with_reducible refine stW 45 ?_)
  refine ⟨stRow rfl 45 (.tmp 4) (.tmp 13) rfl rfl h2 rfl (by kernel_rfl) rfl (by simp [Value.oneCell']) ?_⟩
  clear h2
  intro W3 z3 h3 g3
  have HA3 := Lib.hid ((g3.block w.heap.size (by omega) (by simp)).trans HA2.out)
  clear cA fA HA2
  obtain ⟨cA, fA⟩ := live HA3.out
  obtain ⟨cF, fF⟩ := live h3
  have HF3 := Lib.hid h3
  clear h3
  have b3 : Below w.heap.size w W3 := (b1.trans (b2.mono (by omega))).grown g3 (by omega) (by simp)
  clear z1 z2 z3 g3 b1 b2
  go_wp2
  go_ret2
  exact ⟨rfl, b3⟩

set_option maxHeartbeats 1000000 in
theorem enc_no_6h (ver oth lim : Int) (pk ph pb : Option Addr) (nk ck nh ch nb cb : Nat) (w : World) (h : nh ≠ 32) (h0 : nk = 32)
    (hg : 2 < w.heap.size) (hs : Cells w 2 36 [.bool false, .bool true, .bool true, .bool true, .bool false, .bool true]) :
    Calls Tryd.prog 7 #[.agg #[.int .i64 6, .int .i64 ver, .int .i64 oth, .int .i64 lim, .slice pk nk ck, .slice ph nh ch, .slice pb nb cb]] w fun e w' => e = .returned (.tuple #[.slice none 0 0, .int .i64 200]) ∧ Below w.heap.size w w' := by
  subst h0
  have q : ((nh : Int) != 32) = true := by simp; omega
  go_enter Tryd.func7, Tryd.ntmps7
  go_wp2_with (with_reducible refine stB 24 ?_)
  refine ⟨bx rfl 24 (.tmp 0) rfl (v := .agg #[.int .i64 6, .int .i64 ver, .int .i64 oth, .int .i64 lim, .slice pk 32 ck, .slice ph nh ch, .slice pb nb cb]) rfl ?_⟩
  intro W1 z1 h1 b1
  simp only [Value.cells] at h1
  obtain ⟨cA, fA⟩ := live h1
  have HA := Lib.hid h1
  clear h1
  go_wp2_with (first | (go_at_call 15; go_in) | (with_reducible refine stL 45 ?_))
  refine ⟨ldRow rfl 45 (.tmp 12) rfl rfl _ (hs.below hg b1) Tryd.underlying45 rfl (by kernel_rfl) ?_⟩
  go_wp2_with (with_reducible refine stAl 45 ?_)
  refine ⟨al rfl 45 rfl (z := .agg #[.bool false, .bool false, .bool false, .bool false, .bool false, .bool false]) (by kernel_rfl) ?_⟩
  intro W2 z2 h2 b2
  simp only [Value.cells] at h2
  rw [z1] at h2 b2
  have HA2 := Lib.hid ((b2.block w.heap.size (by omega)).trans HA.out)
  clear cA fA HA
  obtain ⟨cA, fA⟩ := live HA2.out
  go_wp2_with (with_reducible refine stW 45 ?_)
  refine ⟨stRow rfl 45 (.tmp 4) (.tmp 13) rfl rfl h2 rfl (by kernel_rfl) rfl (by simp [Value.oneCell']) ?_⟩
  clear h2
  intro W3 z3 h3 g3
  have HA3 := Lib.hid ((g3.block w.heap.size (by omega) (by simp)).trans HA2.out)
  clear cA fA HA2
  obtain ⟨cA, fA⟩ := live HA3.out
  obtain ⟨cF, fF⟩ := live h3
  have HF3 := Lib.hid h3
  clear h3
  have b3 : Below w.heap.size w W3 := (b1.trans (b2.mono (by omega))).grown g3 (by omega) (by simp)
  clear z1 z2 z3 g3 b1 b2
  go_wp2
  go_ret2
  exact ⟨rfl, b3⟩

set_option maxHeartbeats 1000000 in
theorem enc_no_6l (ver oth lim : Int) (pk ph pb : Option Addr) (nk ck nh ch nb cb : Nat) (w : World) (h : lim < 0) (h0 : nk = 32) (h1 : nh = 32)
    (hg : 2 < w.heap.size) (hs : Cells w 2 36 [.bool false, .bool true, .bool true, .bool true, .bool false, .bool true]) :
    Calls Tryd.prog 7 #[.agg #[.int .i64 6, .int .i64 ver, .int .i64 oth, .int .i64 lim, .slice pk nk ck, .slice ph nh ch, .slice pb nb cb]] w fun e w' => e = .returned (.tuple #[.slice none 0 0, .int .i64 200]) ∧ Below w.heap.size w w' := by
  subst h0
  subst h1
  go_enter Tryd.func7, Tryd.ntmps7
  go_wp2_with (with_reducible refine stB 24 ?_)
  refine ⟨bx rfl 24 (.tmp 0) rfl (v := .agg #[.int .i64 6, .int .i64 ver, .int .i64 oth, .int .i64 lim, .slice pk 32 ck, .slice ph 32 ch, .slice pb nb cb]) rfl ?_⟩
  intro W1 z1 h1 b1
  simp only [Value.cells] at h1
  obtain ⟨cA, fA⟩ := live h1
  have HA := Lib.hid h1
  clear h1
  go_wp2_with (first | (go_at_call 15; go_in) | (with_reducible refine stL 45 ?_))
  refine ⟨ldRow rfl 45 (.tmp 12) rfl rfl _ (hs.below hg b1) Tryd.underlying45 rfl (by kernel_rfl) ?_⟩
  go_wp2_with (with_reducible refine stAl 45 ?_)
  refine ⟨al rfl 45 rfl (z := .agg #[.bool false, .bool false, .bool false, .bool false, .bool false, .bool false]) (by kernel_rfl) ?_⟩
  intro W2 z2 h2 b2
  simp only [Value.cells] at h2
  rw [z1] at h2 b2
  have HA2 := Lib.hid ((b2.block w.heap.size (by omega)).trans HA.out)
  clear cA fA HA
  obtain ⟨cA, fA⟩ := live HA2.out
  go_wp2_with (with_reducible refine stW 45 ?_)
  refine ⟨stRow rfl 45 (.tmp 4) (.tmp 13) rfl rfl h2 rfl (by kernel_rfl) rfl (by simp [Value.oneCell']) ?_⟩
  clear h2
  intro W3 z3 h3 g3
  have HA3 := Lib.hid ((g3.block w.heap.size (by omega) (by simp)).trans HA2.out)
  clear cA fA HA2
  obtain ⟨cA, fA⟩ := live HA3.out
  obtain ⟨cF, fF⟩ := live h3
  have HF3 := Lib.hid h3
  clear h3
  have b3 : Below w.heap.size w W3 := (b1.trans (b2.mono (by omega))).grown g3 (by omega) (by simp)
  clear z1 z2 z3 g3 b1 b2
  go_wp2
  go_ret2
  exact ⟨rfl, b3⟩

set_option maxHeartbeats 1000000 in
theorem enc_no_6m (ver oth lim : Int) (pk ph pb : Option Addr) (nk ck nh ch nb cb : Nat) (w : World) (h : 4294967295 < lim) (h0 : nk = 32) (h1 : nh = 32)
    (hg : 2 < w.heap.size) (hs : Cells w 2 36 [.bool false, .bool true, .bool true, .bool true, .bool false, .bool true]) :
    Calls Tryd.prog 7 #[.agg #[.int .i64 6, .int .i64 ver, .int .i64 oth, .int .i64 lim, .slice pk nk ck, .slice ph nh ch, .slice pb nb cb]] w fun e w' => e = .returned (.tuple #[.slice none 0 0, .int .i64 200]) ∧ Below w.heap.size w w' := by
  subst h0
  subst h1
  go_enter Tryd.func7, Tryd.ntmps7
  go_wp2_with (with_reducible refine stB 24 ?_)
  refine ⟨bx rfl 24 (.tmp 0) rfl (v := .agg #[.int .i64 6, .int .i64 ver, .int .i64 oth, .int .i64 lim, .slice pk 32 ck, .slice ph 32 ch, .slice pb nb cb]) rfl ?_⟩
  intro W1 z1 h1 b1
  simp only [Value.cells] at h1
  obtain ⟨cA, fA⟩ := live h1
  have HA := Lib.hid h1
  clear h1
  go_wp2_with (first | (go_at_call 15; go_in) | (with_reducible refine stL 45 ?_))
  refine ⟨ldRow rfl 45 (.tmp 12) rfl rfl _ (hs.below hg b1) Tryd.underlying45 rfl (by kernel_rfl) ?_⟩
  go_wp2_with (with_reducible refine stAl 45 ?_)
  refine ⟨al rfl 45 rfl (z := .agg #[.bool false, .bool false, .bool false, .bool false, .bool false, .bool false]) (by kernel_rfl) ?_⟩
  intro W2 z2 h2 b2
  simp only [Value.cells] at h2
  rw [z1] at h2 b2
  have HA2 := Lib.hid ((b2.block w.heap.size (by omega)).trans HA.out)
  clear cA fA HA
  obtain ⟨cA, fA⟩ := live HA2.out
  go_wp2_with (with_reducible refine stW 45 ?_)
  refine ⟨stRow rfl 45 (.tmp 4) (.tmp 13) rfl rfl h2 rfl (by kernel_rfl) rfl (by simp [Value.oneCell']) ?_⟩
  clear h2
  intro W3 z3 h3 g3
  have HA3 := Lib.hid ((g3.block w.heap.size (by omega) (by simp)).trans HA2.out)
  clear cA fA HA2
  obtain ⟨cA, fA⟩ := live HA3.out
  obtain ⟨cF, fF⟩ := live h3
  have HF3 := Lib.hid h3
  clear h3
  have b3 : Below w.heap.size w W3 := (b1.trans (b2.mono (by omega))).grown g3 (by omega) (by simp)
  clear z1 z2 z3 g3 b1 b2
  go_wp2
  go_ret2
  exact ⟨rfl, b3⟩

end Go.Proofs.YtmedbedpgbbdgaaDoor
