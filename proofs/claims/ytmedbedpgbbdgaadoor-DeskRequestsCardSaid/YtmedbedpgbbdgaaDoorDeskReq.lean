/- Walks: the document's Request. Printed by gen_desk.py. -/
import Derived.Test.YtmedbedpgbbdgaaDoorDeskWalks3
namespace Go.Proofs.YtmedbedpgbbdgaaDoor
open Go.RowKit
set_option linter.unusedVariables false

set_option maxHeartbeats 1000000 in
set_option maxRecDepth 100000 in
theorem req_ok_1 (ver oth lim : Int) (pk ph pb : Option Addr) (nk ck nh ch nb cb : Nat) (key high batch : List UInt8) (w : World) (hb0 : View w (.slice pb nb cb) nb 1 (bv batch)) (hb1 : nb ≤ 11999) :
    Calls Tryd.prog 8 #[.agg #[.int .i64 1, .int .i64 ver, .int .i64 oth, .int .i64 lim, .slice pk nk ck, .slice ph nh ch, .slice pb nb cb]] w fun e w' => ∃ p n c, e = .returned (.tuple #[.slice p n c, .int .i64 0]) ∧ w'.ownsRow w.heap.size 5 1 (.slice p n c) n (bv ([1] ++ batch.take nb)) ∧ Below w.heap.size w w' := by
  have hb2 : decide (11999 < nb) = false := by simp; omega
  go_enter Tryd.func8, Tryd.ntmps8
  go_wp2_with (with_reducible refine stB 24 ?_)
  refine ⟨bx rfl 24 (.tmp 0) rfl (v := .agg #[.int .i64 1, .int .i64 ver, .int .i64 oth, .int .i64 lim, .slice pk nk ck, .slice ph nh ch, .slice pb nb cb]) rfl ?_⟩
  intro W1 z1 h1 b1
  simp only [Value.cells] at h1
  obtain ⟨cA, fA⟩ := live h1
  have HA1 := Lib.hid h1
  clear h1
  have y1 : w.heap.size + 1 ≤ W1.heap.size := by omega
  go_wp2_with (first | (go_at_call 17; go_in) | (go_at_call 18; with_reducible refine stK ?_) | (with_reducible refine stA ?_))
  refine ⟨appB sk22 rfl (.tmp 87) (.tmp 89) rfl (w.heap.size + 1) (v := .slice (some ⟨w.heap.size + 1, 0, none⟩) 1 1) rfl rfl (own_lit1 W1 5 (w.heap.size + 1) 1 (w.heap.size + 1) (by omega) (by omega)) (hb0.below (b1.alloc (by omega) _)) (by simp; omega) (1 + nb) (by simp) (by omega) ([1] ++ batch.take nb) rfl ?_⟩
  intro p2 c2 W2 ho2 hg2
  have HA2 := Lib.hid (hg2.old (own_lit1 W1 5 (w.heap.size + 1) 1 (w.heap.size + 1) (by omega) (by omega)) (by omega) ((Below.heap_alloc W1 _ _ (by omega)).trans HA1.out))
  have b2 : Below w.heap.size w W2 := below_own (b1.alloc (by omega) _) hg2 (own_low (own_lit1 W1 5 (w.heap.size + 1) 1 (w.heap.size + 1) (by omega) (by omega)) (by omega)) (by simp; omega)
  have y2 : w.heap.size + 1 ≤ W2.heap.size := by have := hg2.by_.size; first | omega | (simp at this; omega)
  clear cA fA
  obtain ⟨cA, fA⟩ := live HA2.out
  go_wp2_with (go_at_call 17; go_in)
  go_ret2
  exact ⟨p2, 1 + nb, c2, rfl, own_low ho2 (by omega), b2⟩

set_option maxHeartbeats 1000000 in
set_option maxRecDepth 100000 in
theorem req_ok_2 (ver oth lim : Int) (pk ph pb : Option Addr) (nk ck nh ch nb cb : Nat) (key high batch : List UInt8) (w : World) (hk0 : View w (.slice pk nk ck) nk 1 (bv key)) (hk1 : nk = 32) :
    Calls Tryd.prog 8 #[.agg #[.int .i64 2, .int .i64 ver, .int .i64 oth, .int .i64 lim, .slice pk nk ck, .slice ph nh ch, .slice pb nb cb]] w fun e w' => ∃ p n c, e = .returned (.tuple #[.slice p n c, .int .i64 0]) ∧ w'.ownsRow w.heap.size 5 1 (.slice p n c) n (bv ([2] ++ key.take 32 ++ lowZ ver 8)) ∧ Below w.heap.size w w' := by
  subst hk1
  go_enter Tryd.func8, Tryd.ntmps8
  go_wp2_with (with_reducible refine stB 24 ?_)
  refine ⟨bx rfl 24 (.tmp 0) rfl (v := .agg #[.int .i64 2, .int .i64 ver, .int .i64 oth, .int .i64 lim, .slice pk 32 ck, .slice ph nh ch, .slice pb nb cb]) rfl ?_⟩
  intro W1 z1 h1 b1
  simp only [Value.cells] at h1
  obtain ⟨cA, fA⟩ := live h1
  have HA1 := Lib.hid h1
  clear h1
  have y1 : w.heap.size + 1 ≤ W1.heap.size := by omega
  go_wp2_with (first | (go_at_call 17; go_in) | (go_at_call 18; with_reducible refine stK ?_) | (with_reducible refine stA ?_))
  refine ⟨appB sk22 rfl (.tmp 93) (.tmp 95) rfl (w.heap.size + 1) (v := .slice (some ⟨w.heap.size + 1, 0, none⟩) 1 1) rfl rfl (own_lit1 W1 5 (w.heap.size + 1) 2 (w.heap.size + 1) (by omega) (by omega)) (hk0.below (b1.alloc (by omega) _)) (by simp; omega) (33) (by simp) (by omega) ([2] ++ key.take 32) rfl ?_⟩
  intro p2 c2 W2 ho2 hg2
  have HA2 := Lib.hid (hg2.old (own_lit1 W1 5 (w.heap.size + 1) 2 (w.heap.size + 1) (by omega) (by omega)) (by omega) ((Below.heap_alloc W1 _ _ (by omega)).trans HA1.out))
  have b2 : Below w.heap.size w W2 := below_own (b1.alloc (by omega) _) hg2 (own_low (own_lit1 W1 5 (w.heap.size + 1) 2 (w.heap.size + 1) (by omega) (by omega)) (by omega)) (by simp; omega)
  have y2 : w.heap.size + 1 ≤ W2.heap.size := by have := hg2.by_.size; first | omega | (simp at this; omega)
  clear cA fA
  obtain ⟨cA, fA⟩ := live HA2.out
  go_wp2_with (first | (go_at_call 17; go_in) | (go_at_call 18; with_reducible refine stK ?_) | (with_reducible refine stA ?_))
  refine ⟨(Low_spec ver 8 _ (by omega)).mono ?_⟩
  rintro e L3 ⟨q3, d3, rfl, bL3, oL3⟩
  have oo3 := own_below ho2 bL3
  have hh3 := Lib.hid ((bL3.block w.heap.size (by omega)).trans HA2.out)
  have bb3 := b2.trans (bL3.mono (by omega))
  have sL3 : w.heap.size + 1 ≤ L3.heap.size := by have := bL3.size; first | omega | (simp at this; omega)
  clear cA fA
  obtain ⟨cA, fA⟩ := live hh3.out
  go_wp2_with (with_reducible refine stA ?_)
  refine ⟨appB sk22 rfl (.tmp 104) (.tmp 107) rfl (w.heap.size + 1) (v := .slice p2 (33) c2) rfl rfl oo3 (View.own oL3) sL3 (41) (by simp) (by omega) ([2] ++ key.take 32 ++ lowZ ver 8) (by rw [show (lowZ ver 8).take 8 = lowZ ver 8 from List.take_of_length_le (by simp [lowZ_length])]) ?_⟩
  intro p3 c3 W3 ho3 hg3
  have HA3 := Lib.hid (hg3.old oo3 (by omega) hh3.out)
  have b3 : Below w.heap.size w W3 := below_own bb3 hg3 (own_low oo3 (by omega)) (by omega)
  have y3 : w.heap.size + 1 ≤ W3.heap.size := by have := hg3.by_.size; first | omega | (simp at this; omega)
  clear cA fA
  obtain ⟨cA, fA⟩ := live HA3.out
  go_wp2_with (go_at_call 17; go_in)
  go_ret2
  exact ⟨p3, 41, c3, rfl, own_low ho3 (by omega), b3⟩

set_option maxHeartbeats 1000000 in
set_option maxRecDepth 100000 in
theorem req_ok_3 (ver oth lim : Int) (pk ph pb : Option Addr) (nk ck nh ch nb cb : Nat) (key high batch : List UInt8) (w : World) :
    Calls Tryd.prog 8 #[.agg #[.int .i64 3, .int .i64 ver, .int .i64 oth, .int .i64 lim, .slice pk nk ck, .slice ph nh ch, .slice pb nb cb]] w fun e w' => ∃ p n c, e = .returned (.tuple #[.slice p n c, .int .i64 0]) ∧ w'.ownsRow w.heap.size 5 1 (.slice p n c) n (bv ([3] ++ lowZ ver 8)) ∧ Below w.heap.size w w' := by
  go_enter Tryd.func8, Tryd.ntmps8
  go_wp2_with (with_reducible refine stB 24 ?_)
  refine ⟨bx rfl 24 (.tmp 0) rfl (v := .agg #[.int .i64 3, .int .i64 ver, .int .i64 oth, .int .i64 lim, .slice pk nk ck, .slice ph nh ch, .slice pb nb cb]) rfl ?_⟩
  intro W1 z1 h1 b1
  simp only [Value.cells] at h1
  obtain ⟨cA, fA⟩ := live h1
  have HA1 := Lib.hid h1
  clear h1
  have y1 : w.heap.size + 1 ≤ W1.heap.size := by omega
  go_wp2_with (first | (go_at_call 17; go_in) | (go_at_call 18; with_reducible refine stK ?_) | (with_reducible refine stA ?_))
  refine ⟨(Low_spec ver 8 _ (by omega)).mono ?_⟩
  rintro e L2 ⟨q2, d2, rfl, bL2, oL2⟩
  have oo2 := own_below (own_lit1 W1 5 (w.heap.size + 1) 3 (w.heap.size + 1) (by omega) (by omega)) bL2
  have hh2 := Lib.hid ((bL2.block w.heap.size (by simp; omega)).trans ((Below.heap_alloc W1 _ _ (by omega)).trans HA1.out))
  have bb2 := (b1.alloc (by omega) _).trans (bL2.mono (by simp; omega))
  have sL2 : w.heap.size + 1 ≤ L2.heap.size := by have := bL2.size; first | omega | (simp at this; omega)
  clear cA fA
  obtain ⟨cA, fA⟩ := live hh2.out
  go_wp2_with (with_reducible refine stA ?_)
  refine ⟨appB sk22 rfl (.tmp 104) (.tmp 107) rfl (w.heap.size + 1) (v := .slice (some ⟨w.heap.size + 1, 0, none⟩) 1 1) rfl rfl oo2 (View.own oL2) sL2 (9) (by simp) (by omega) ([3] ++ lowZ ver 8) (by rw [show (lowZ ver 8).take 8 = lowZ ver 8 from List.take_of_length_le (by simp [lowZ_length])]) ?_⟩
  intro p2 c2 W2 ho2 hg2
  have HA2 := Lib.hid (hg2.old oo2 (by omega) hh2.out)
  have b2 : Below w.heap.size w W2 := below_own bb2 hg2 (own_low oo2 (by omega)) (by omega)
  have y2 : w.heap.size + 1 ≤ W2.heap.size := by have := hg2.by_.size; first | omega | (simp at this; omega)
  clear cA fA
  obtain ⟨cA, fA⟩ := live HA2.out
  go_wp2_with (go_at_call 17; go_in)
  go_ret2
  exact ⟨p2, 9, c2, rfl, own_low ho2 (by omega), b2⟩

set_option maxHeartbeats 1000000 in
set_option maxRecDepth 100000 in
theorem req_ok_4 (ver oth lim : Int) (pk ph pb : Option Addr) (nk ck nh ch nb cb : Nat) (key high batch : List UInt8) (w : World) (hk0 : View w (.slice pk nk ck) nk 1 (bv key)) (hk1 : nk = 32) :
    Calls Tryd.prog 8 #[.agg #[.int .i64 4, .int .i64 ver, .int .i64 oth, .int .i64 lim, .slice pk nk ck, .slice ph nh ch, .slice pb nb cb]] w fun e w' => ∃ p n c, e = .returned (.tuple #[.slice p n c, .int .i64 0]) ∧ w'.ownsRow w.heap.size 5 1 (.slice p n c) n (bv ([4] ++ key.take 32 ++ lowZ ver 8)) ∧ Below w.heap.size w w' := by
  subst hk1
  go_enter Tryd.func8, Tryd.ntmps8
  go_wp2_with (with_reducible refine stB 24 ?_)
  refine ⟨bx rfl 24 (.tmp 0) rfl (v := .agg #[.int .i64 4, .int .i64 ver, .int .i64 oth, .int .i64 lim, .slice pk 32 ck, .slice ph nh ch, .slice pb nb cb]) rfl ?_⟩
  intro W1 z1 h1 b1
  simp only [Value.cells] at h1
  obtain ⟨cA, fA⟩ := live h1
  have HA1 := Lib.hid h1
  clear h1
  have y1 : w.heap.size + 1 ≤ W1.heap.size := by omega
  go_wp2_with (first | (go_at_call 17; go_in) | (go_at_call 18; with_reducible refine stK ?_) | (with_reducible refine stA ?_))
  refine ⟨appB sk22 rfl (.tmp 93) (.tmp 95) rfl (w.heap.size + 1) (v := .slice (some ⟨w.heap.size + 1, 0, none⟩) 1 1) rfl rfl (own_lit1 W1 5 (w.heap.size + 1) 4 (w.heap.size + 1) (by omega) (by omega)) (hk0.below (b1.alloc (by omega) _)) (by simp; omega) (33) (by simp) (by omega) ([4] ++ key.take 32) rfl ?_⟩
  intro p2 c2 W2 ho2 hg2
  have HA2 := Lib.hid (hg2.old (own_lit1 W1 5 (w.heap.size + 1) 4 (w.heap.size + 1) (by omega) (by omega)) (by omega) ((Below.heap_alloc W1 _ _ (by omega)).trans HA1.out))
  have b2 : Below w.heap.size w W2 := below_own (b1.alloc (by omega) _) hg2 (own_low (own_lit1 W1 5 (w.heap.size + 1) 4 (w.heap.size + 1) (by omega) (by omega)) (by omega)) (by simp; omega)
  have y2 : w.heap.size + 1 ≤ W2.heap.size := by have := hg2.by_.size; first | omega | (simp at this; omega)
  clear cA fA
  obtain ⟨cA, fA⟩ := live HA2.out
  go_wp2_with (first | (go_at_call 17; go_in) | (go_at_call 18; with_reducible refine stK ?_) | (with_reducible refine stA ?_))
  refine ⟨(Low_spec ver 8 _ (by omega)).mono ?_⟩
  rintro e L3 ⟨q3, d3, rfl, bL3, oL3⟩
  have oo3 := own_below ho2 bL3
  have hh3 := Lib.hid ((bL3.block w.heap.size (by omega)).trans HA2.out)
  have bb3 := b2.trans (bL3.mono (by omega))
  have sL3 : w.heap.size + 1 ≤ L3.heap.size := by have := bL3.size; first | omega | (simp at this; omega)
  clear cA fA
  obtain ⟨cA, fA⟩ := live hh3.out
  go_wp2_with (with_reducible refine stA ?_)
  refine ⟨appB sk22 rfl (.tmp 104) (.tmp 107) rfl (w.heap.size + 1) (v := .slice p2 (33) c2) rfl rfl oo3 (View.own oL3) sL3 (41) (by simp) (by omega) ([4] ++ key.take 32 ++ lowZ ver 8) (by rw [show (lowZ ver 8).take 8 = lowZ ver 8 from List.take_of_length_le (by simp [lowZ_length])]) ?_⟩
  intro p3 c3 W3 ho3 hg3
  have HA3 := Lib.hid (hg3.old oo3 (by omega) hh3.out)
  have b3 : Below w.heap.size w W3 := below_own bb3 hg3 (own_low oo3 (by omega)) (by omega)
  have y3 : w.heap.size + 1 ≤ W3.heap.size := by have := hg3.by_.size; first | omega | (simp at this; omega)
  clear cA fA
  obtain ⟨cA, fA⟩ := live HA3.out
  go_wp2_with (go_at_call 17; go_in)
  go_ret2
  exact ⟨p3, 41, c3, rfl, own_low ho3 (by omega), b3⟩

set_option maxHeartbeats 1000000 in
set_option maxRecDepth 100000 in
theorem req_ok_5 (ver oth lim : Int) (pk ph pb : Option Addr) (nk ck nh ch nb cb : Nat) (key high batch : List UInt8) (w : World) (hk0 : View w (.slice pk nk ck) nk 1 (bv key)) (hk1 : nk = 32) (hh0 : View w (.slice ph nh ch) nh 1 (bv high)) (hh1 : nh = 32) :
    Calls Tryd.prog 8 #[.agg #[.int .i64 5, .int .i64 ver, .int .i64 oth, .int .i64 lim, .slice pk nk ck, .slice ph nh ch, .slice pb nb cb]] w fun e w' => ∃ p n c, e = .returned (.tuple #[.slice p n c, .int .i64 0]) ∧ w'.ownsRow w.heap.size 5 1 (.slice p n c) n (bv ([5] ++ key.take 32 ++ high.take 32 ++ lowZ ver 8)) ∧ Below w.heap.size w w' := by
  subst hk1
  subst hh1
  go_enter Tryd.func8, Tryd.ntmps8
  go_wp2_with (with_reducible refine stB 24 ?_)
  refine ⟨bx rfl 24 (.tmp 0) rfl (v := .agg #[.int .i64 5, .int .i64 ver, .int .i64 oth, .int .i64 lim, .slice pk 32 ck, .slice ph 32 ch, .slice pb nb cb]) rfl ?_⟩
  intro W1 z1 h1 b1
  simp only [Value.cells] at h1
  obtain ⟨cA, fA⟩ := live h1
  have HA1 := Lib.hid h1
  clear h1
  have y1 : w.heap.size + 1 ≤ W1.heap.size := by omega
  go_wp2_with (first | (go_at_call 17; go_in) | (go_at_call 18; with_reducible refine stK ?_) | (with_reducible refine stA ?_))
  refine ⟨appB sk22 rfl (.tmp 93) (.tmp 95) rfl (w.heap.size + 1) (v := .slice (some ⟨w.heap.size + 1, 0, none⟩) 1 1) rfl rfl (own_lit1 W1 5 (w.heap.size + 1) 5 (w.heap.size + 1) (by omega) (by omega)) (hk0.below (b1.alloc (by omega) _)) (by simp; omega) (33) (by simp) (by omega) ([5] ++ key.take 32) rfl ?_⟩
  intro p2 c2 W2 ho2 hg2
  have HA2 := Lib.hid (hg2.old (own_lit1 W1 5 (w.heap.size + 1) 5 (w.heap.size + 1) (by omega) (by omega)) (by omega) ((Below.heap_alloc W1 _ _ (by omega)).trans HA1.out))
  have b2 : Below w.heap.size w W2 := below_own (b1.alloc (by omega) _) hg2 (own_low (own_lit1 W1 5 (w.heap.size + 1) 5 (w.heap.size + 1) (by omega) (by omega)) (by omega)) (by simp; omega)
  have y2 : w.heap.size + 1 ≤ W2.heap.size := by have := hg2.by_.size; first | omega | (simp at this; omega)
  clear cA fA
  obtain ⟨cA, fA⟩ := live HA2.out
  go_wp2_with (first | (go_at_call 17; go_in) | (go_at_call 18; with_reducible refine stK ?_) | (with_reducible refine stA ?_))
  refine ⟨appB sk22 rfl (.tmp 98) (.tmp 100) rfl (w.heap.size + 1) (v := .slice p2 (33) c2) rfl rfl ho2 (hh0.below b2) y2 (65) (by simp) (by omega) ([5] ++ key.take 32 ++ high.take 32) rfl ?_⟩
  intro p3 c3 W3 ho3 hg3
  have HA3 := Lib.hid (hg3.old ho2 (by omega) HA2.out)
  have b3 : Below w.heap.size w W3 := below_own b2 hg3 (own_low ho2 (by omega)) (by omega)
  have y3 : w.heap.size + 1 ≤ W3.heap.size := by have := hg3.by_.size; first | omega | (simp at this; omega)
  clear cA fA
  obtain ⟨cA, fA⟩ := live HA3.out
  go_wp2_with (first | (go_at_call 17; go_in) | (go_at_call 18; with_reducible refine stK ?_) | (with_reducible refine stA ?_))
  refine ⟨(Low_spec ver 8 _ (by omega)).mono ?_⟩
  rintro e L4 ⟨q4, d4, rfl, bL4, oL4⟩
  have oo4 := own_below ho3 bL4
  have hh4 := Lib.hid ((bL4.block w.heap.size (by omega)).trans HA3.out)
  have bb4 := b3.trans (bL4.mono (by omega))
  have sL4 : w.heap.size + 1 ≤ L4.heap.size := by have := bL4.size; first | omega | (simp at this; omega)
  clear cA fA
  obtain ⟨cA, fA⟩ := live hh4.out
  go_wp2_with (with_reducible refine stA ?_)
  refine ⟨appB sk22 rfl (.tmp 104) (.tmp 107) rfl (w.heap.size + 1) (v := .slice p3 (65) c3) rfl rfl oo4 (View.own oL4) sL4 (73) (by simp) (by omega) ([5] ++ key.take 32 ++ high.take 32 ++ lowZ ver 8) (by rw [show (lowZ ver 8).take 8 = lowZ ver 8 from List.take_of_length_le (by simp [lowZ_length])]) ?_⟩
  intro p4 c4 W4 ho4 hg4
  have HA4 := Lib.hid (hg4.old oo4 (by omega) hh4.out)
  have b4 : Below w.heap.size w W4 := below_own bb4 hg4 (own_low oo4 (by omega)) (by omega)
  have y4 : w.heap.size + 1 ≤ W4.heap.size := by have := hg4.by_.size; first | omega | (simp at this; omega)
  clear cA fA
  obtain ⟨cA, fA⟩ := live HA4.out
  go_wp2_with (go_at_call 17; go_in)
  go_ret2
  exact ⟨p4, 73, c4, rfl, own_low ho4 (by omega), b4⟩

set_option maxHeartbeats 1000000 in
set_option maxRecDepth 100000 in
theorem req_ok_6 (ver oth lim : Int) (pk ph pb : Option Addr) (nk ck nh ch nb cb : Nat) (key high batch : List UInt8) (w : World) (hk0 : View w (.slice pk nk ck) nk 1 (bv key)) (hk1 : nk = 32) (hh0 : View w (.slice ph nh ch) nh 1 (bv high)) (hh1 : nh = 32) (hl0 : 0 ≤ lim) (hl1 : lim ≤ 4294967295) :
    Calls Tryd.prog 8 #[.agg #[.int .i64 6, .int .i64 ver, .int .i64 oth, .int .i64 lim, .slice pk nk ck, .slice ph nh ch, .slice pb nb cb]] w fun e w' => ∃ p n c, e = .returned (.tuple #[.slice p n c, .int .i64 0]) ∧ w'.ownsRow w.heap.size 5 1 (.slice p n c) n (bv ([6] ++ key.take 32 ++ high.take 32 ++ lowZ ver 8 ++ lowZ lim 4)) ∧ Below w.heap.size w w' := by
  subst hk1
  subst hh1
  go_enter Tryd.func8, Tryd.ntmps8
  go_wp2_with (with_reducible refine stB 24 ?_)
  refine ⟨bx rfl 24 (.tmp 0) rfl (v := .agg #[.int .i64 6, .int .i64 ver, .int .i64 oth, .int .i64 lim, .slice pk 32 ck, .slice ph 32 ch, .slice pb nb cb]) rfl ?_⟩
  intro W1 z1 h1 b1
  simp only [Value.cells] at h1
  obtain ⟨cA, fA⟩ := live h1
  have HA1 := Lib.hid h1
  clear h1
  have y1 : w.heap.size + 1 ≤ W1.heap.size := by omega
  go_wp2_with (first | (go_at_call 17; go_in) | (go_at_call 18; with_reducible refine stK ?_) | (with_reducible refine stA ?_))
  refine ⟨appB sk22 rfl (.tmp 93) (.tmp 95) rfl (w.heap.size + 1) (v := .slice (some ⟨w.heap.size + 1, 0, none⟩) 1 1) rfl rfl (own_lit1 W1 5 (w.heap.size + 1) 6 (w.heap.size + 1) (by omega) (by omega)) (hk0.below (b1.alloc (by omega) _)) (by simp; omega) (33) (by simp) (by omega) ([6] ++ key.take 32) rfl ?_⟩
  intro p2 c2 W2 ho2 hg2
  have HA2 := Lib.hid (hg2.old (own_lit1 W1 5 (w.heap.size + 1) 6 (w.heap.size + 1) (by omega) (by omega)) (by omega) ((Below.heap_alloc W1 _ _ (by omega)).trans HA1.out))
  have b2 : Below w.heap.size w W2 := below_own (b1.alloc (by omega) _) hg2 (own_low (own_lit1 W1 5 (w.heap.size + 1) 6 (w.heap.size + 1) (by omega) (by omega)) (by omega)) (by simp; omega)
  have y2 : w.heap.size + 1 ≤ W2.heap.size := by have := hg2.by_.size; first | omega | (simp at this; omega)
  clear cA fA
  obtain ⟨cA, fA⟩ := live HA2.out
  go_wp2_with (first | (go_at_call 17; go_in) | (go_at_call 18; with_reducible refine stK ?_) | (with_reducible refine stA ?_))
  refine ⟨appB sk22 rfl (.tmp 98) (.tmp 100) rfl (w.heap.size + 1) (v := .slice p2 (33) c2) rfl rfl ho2 (hh0.below b2) y2 (65) (by simp) (by omega) ([6] ++ key.take 32 ++ high.take 32) rfl ?_⟩
  intro p3 c3 W3 ho3 hg3
  have HA3 := Lib.hid (hg3.old ho2 (by omega) HA2.out)
  have b3 : Below w.heap.size w W3 := below_own b2 hg3 (own_low ho2 (by omega)) (by omega)
  have y3 : w.heap.size + 1 ≤ W3.heap.size := by have := hg3.by_.size; first | omega | (simp at this; omega)
  clear cA fA
  obtain ⟨cA, fA⟩ := live HA3.out
  go_wp2_with (first | (go_at_call 17; go_in) | (go_at_call 18; with_reducible refine stK ?_) | (with_reducible refine stA ?_))
  refine ⟨(Low_spec ver 8 _ (by omega)).mono ?_⟩
  rintro e L4 ⟨q4, d4, rfl, bL4, oL4⟩
  have oo4 := own_below ho3 bL4
  have hh4 := Lib.hid ((bL4.block w.heap.size (by omega)).trans HA3.out)
  have bb4 := b3.trans (bL4.mono (by omega))
  have sL4 : w.heap.size + 1 ≤ L4.heap.size := by have := bL4.size; first | omega | (simp at this; omega)
  clear cA fA
  obtain ⟨cA, fA⟩ := live hh4.out
  go_wp2_with (with_reducible refine stA ?_)
  refine ⟨appB sk22 rfl (.tmp 104) (.tmp 107) rfl (w.heap.size + 1) (v := .slice p3 (65) c3) rfl rfl oo4 (View.own oL4) sL4 (73) (by simp) (by omega) ([6] ++ key.take 32 ++ high.take 32 ++ lowZ ver 8) (by rw [show (lowZ ver 8).take 8 = lowZ ver 8 from List.take_of_length_le (by simp [lowZ_length])]) ?_⟩
  intro p4 c4 W4 ho4 hg4
  have HA4 := Lib.hid (hg4.old oo4 (by omega) hh4.out)
  have b4 : Below w.heap.size w W4 := below_own bb4 hg4 (own_low oo4 (by omega)) (by omega)
  have y4 : w.heap.size + 1 ≤ W4.heap.size := by have := hg4.by_.size; first | omega | (simp at this; omega)
  clear cA fA
  obtain ⟨cA, fA⟩ := live HA4.out
  go_wp2_with (first | (go_at_call 17; go_in) | (go_at_call 18; with_reducible refine stK ?_) | (with_reducible refine stA ?_))
  refine ⟨(Low_spec lim 4 _ (by omega)).mono ?_⟩
  rintro e L5 ⟨q5, d5, rfl, bL5, oL5⟩
  have oo5 := own_below ho4 bL5
  have hh5 := Lib.hid ((bL5.block w.heap.size (by omega)).trans HA4.out)
  have bb5 := b4.trans (bL5.mono (by omega))
  have sL5 : w.heap.size + 1 ≤ L5.heap.size := by have := bL5.size; first | omega | (simp at this; omega)
  clear cA fA
  obtain ⟨cA, fA⟩ := live hh5.out
  go_wp2_with (with_reducible refine stA ?_)
  refine ⟨appB sk22 rfl (.tmp 120) (.tmp 123) rfl (w.heap.size + 1) (v := .slice p4 (73) c4) rfl rfl oo5 (View.own oL5) sL5 (77) (by simp) (by omega) ([6] ++ key.take 32 ++ high.take 32 ++ lowZ ver 8 ++ lowZ lim 4) (by rw [show (lowZ lim 4).take 4 = lowZ lim 4 from List.take_of_length_le (by simp [lowZ_length])]) ?_⟩
  intro p5 c5 W5 ho5 hg5
  have HA5 := Lib.hid (hg5.old oo5 (by omega) hh5.out)
  have b5 : Below w.heap.size w W5 := below_own bb5 hg5 (own_low oo5 (by omega)) (by omega)
  have y5 : w.heap.size + 1 ≤ W5.heap.size := by have := hg5.by_.size; first | omega | (simp at this; omega)
  clear cA fA
  obtain ⟨cA, fA⟩ := live HA5.out
  go_wp2_with (go_at_call 17; go_in)
  go_ret2
  exact ⟨p5, 77, c5, rfl, own_low ho5 (by omega), b5⟩

set_option maxHeartbeats 1000000 in
set_option maxRecDepth 100000 in
theorem req_ok_7 (ver oth lim : Int) (pk ph pb : Option Addr) (nk ck nh ch nb cb : Nat) (key high batch : List UInt8) (w : World) :
    Calls Tryd.prog 8 #[.agg #[.int .i64 7, .int .i64 ver, .int .i64 oth, .int .i64 lim, .slice pk nk ck, .slice ph nh ch, .slice pb nb cb]] w fun e w' => ∃ p n c, e = .returned (.tuple #[.slice p n c, .int .i64 0]) ∧ w'.ownsRow w.heap.size 5 1 (.slice p n c) n (bv ([7] ++ lowZ ver 8 ++ lowZ oth 8)) ∧ Below w.heap.size w w' := by
  go_enter Tryd.func8, Tryd.ntmps8
  go_wp2_with (with_reducible refine stB 24 ?_)
  refine ⟨bx rfl 24 (.tmp 0) rfl (v := .agg #[.int .i64 7, .int .i64 ver, .int .i64 oth, .int .i64 lim, .slice pk nk ck, .slice ph nh ch, .slice pb nb cb]) rfl ?_⟩
  intro W1 z1 h1 b1
  simp only [Value.cells] at h1
  obtain ⟨cA, fA⟩ := live h1
  have HA1 := Lib.hid h1
  clear h1
  have y1 : w.heap.size + 1 ≤ W1.heap.size := by omega
  go_wp2_with (first | (go_at_call 17; go_in) | (go_at_call 18; with_reducible refine stK ?_) | (with_reducible refine stA ?_))
  refine ⟨(Low_spec ver 8 _ (by omega)).mono ?_⟩
  rintro e L2 ⟨q2, d2, rfl, bL2, oL2⟩
  have oo2 := own_below (own_lit1 W1 5 (w.heap.size + 1) 7 (w.heap.size + 1) (by omega) (by omega)) bL2
  have hh2 := Lib.hid ((bL2.block w.heap.size (by simp; omega)).trans ((Below.heap_alloc W1 _ _ (by omega)).trans HA1.out))
  have bb2 := (b1.alloc (by omega) _).trans (bL2.mono (by simp; omega))
  have sL2 : w.heap.size + 1 ≤ L2.heap.size := by have := bL2.size; first | omega | (simp at this; omega)
  clear cA fA
  obtain ⟨cA, fA⟩ := live hh2.out
  go_wp2_with (with_reducible refine stA ?_)
  refine ⟨appB sk22 rfl (.tmp 104) (.tmp 107) rfl (w.heap.size + 1) (v := .slice (some ⟨w.heap.size + 1, 0, none⟩) 1 1) rfl rfl oo2 (View.own oL2) sL2 (9) (by simp) (by omega) ([7] ++ lowZ ver 8) (by rw [show (lowZ ver 8).take 8 = lowZ ver 8 from List.take_of_length_le (by simp [lowZ_length])]) ?_⟩
  intro p2 c2 W2 ho2 hg2
  have HA2 := Lib.hid (hg2.old oo2 (by omega) hh2.out)
  have b2 : Below w.heap.size w W2 := below_own bb2 hg2 (own_low oo2 (by omega)) (by omega)
  have y2 : w.heap.size + 1 ≤ W2.heap.size := by have := hg2.by_.size; first | omega | (simp at this; omega)
  clear cA fA
  obtain ⟨cA, fA⟩ := live HA2.out
  go_wp2_with (first | (go_at_call 17; go_in) | (go_at_call 18; with_reducible refine stK ?_) | (with_reducible refine stA ?_))
  refine ⟨(Low_spec oth 8 _ (by omega)).mono ?_⟩
  rintro e L3 ⟨q3, d3, rfl, bL3, oL3⟩
  have oo3 := own_below ho2 bL3
  have hh3 := Lib.hid ((bL3.block w.heap.size (by omega)).trans HA2.out)
  have bb3 := b2.trans (bL3.mono (by omega))
  have sL3 : w.heap.size + 1 ≤ L3.heap.size := by have := bL3.size; first | omega | (simp at this; omega)
  clear cA fA
  obtain ⟨cA, fA⟩ := live hh3.out
  go_wp2_with (with_reducible refine stA ?_)
  refine ⟨appB sk22 rfl (.tmp 112) (.tmp 115) rfl (w.heap.size + 1) (v := .slice p2 (9) c2) rfl rfl oo3 (View.own oL3) sL3 (17) (by simp) (by omega) ([7] ++ lowZ ver 8 ++ lowZ oth 8) (by rw [show (lowZ oth 8).take 8 = lowZ oth 8 from List.take_of_length_le (by simp [lowZ_length])]) ?_⟩
  intro p3 c3 W3 ho3 hg3
  have HA3 := Lib.hid (hg3.old oo3 (by omega) hh3.out)
  have b3 : Below w.heap.size w W3 := below_own bb3 hg3 (own_low oo3 (by omega)) (by omega)
  have y3 : w.heap.size + 1 ≤ W3.heap.size := by have := hg3.by_.size; first | omega | (simp at this; omega)
  clear cA fA
  obtain ⟨cA, fA⟩ := live HA3.out
  go_wp2_with (go_at_call 17; go_in)
  go_ret2
  exact ⟨p3, 17, c3, rfl, own_low ho3 (by omega), b3⟩

set_option maxHeartbeats 1000000 in
set_option maxRecDepth 100000 in
theorem req_ok_8 (ver oth lim : Int) (pk ph pb : Option Addr) (nk ck nh ch nb cb : Nat) (key high batch : List UInt8) (w : World) :
    Calls Tryd.prog 8 #[.agg #[.int .i64 8, .int .i64 ver, .int .i64 oth, .int .i64 lim, .slice pk nk ck, .slice ph nh ch, .slice pb nb cb]] w fun e w' => ∃ p n c, e = .returned (.tuple #[.slice p n c, .int .i64 0]) ∧ w'.ownsRow w.heap.size 5 1 (.slice p n c) n (bv ([8])) ∧ Below w.heap.size w w' := by
  go_enter Tryd.func8, Tryd.ntmps8
  go_wp2_with (with_reducible refine stB 24 ?_)
  refine ⟨bx rfl 24 (.tmp 0) rfl (v := .agg #[.int .i64 8, .int .i64 ver, .int .i64 oth, .int .i64 lim, .slice pk nk ck, .slice ph nh ch, .slice pb nb cb]) rfl ?_⟩
  intro W1 z1 h1 b1
  simp only [Value.cells] at h1
  obtain ⟨cA, fA⟩ := live h1
  have HA1 := Lib.hid h1
  clear h1
  have y1 : w.heap.size + 1 ≤ W1.heap.size := by omega
  go_wp2_with (go_at_call 17; go_in)
  go_ret2
  exact ⟨_, 1, 1, rfl, own_low (own_lit1 W1 5 (w.heap.size + 1) 8 (w.heap.size + 1) (by omega) (by omega)) (by omega), (b1.alloc (by omega) _)⟩

set_option maxHeartbeats 1000000 in
set_option maxRecDepth 100000 in
theorem req_ok_9 (ver oth lim : Int) (pk ph pb : Option Addr) (nk ck nh ch nb cb : Nat) (key high batch : List UInt8) (w : World) :
    Calls Tryd.prog 8 #[.agg #[.int .i64 9, .int .i64 ver, .int .i64 oth, .int .i64 lim, .slice pk nk ck, .slice ph nh ch, .slice pb nb cb]] w fun e w' => ∃ p n c, e = .returned (.tuple #[.slice p n c, .int .i64 0]) ∧ w'.ownsRow w.heap.size 5 1 (.slice p n c) n (bv ([9])) ∧ Below w.heap.size w w' := by
  go_enter Tryd.func8, Tryd.ntmps8
  go_wp2_with (with_reducible refine stB 24 ?_)
  refine ⟨bx rfl 24 (.tmp 0) rfl (v := .agg #[.int .i64 9, .int .i64 ver, .int .i64 oth, .int .i64 lim, .slice pk nk ck, .slice ph nh ch, .slice pb nb cb]) rfl ?_⟩
  intro W1 z1 h1 b1
  simp only [Value.cells] at h1
  obtain ⟨cA, fA⟩ := live h1
  have HA1 := Lib.hid h1
  clear h1
  have y1 : w.heap.size + 1 ≤ W1.heap.size := by omega
  go_wp2_with (go_at_call 17; go_in)
  go_ret2
  exact ⟨_, 1, 1, rfl, own_low (own_lit1 W1 5 (w.heap.size + 1) 9 (w.heap.size + 1) (by omega) (by omega)) (by omega), (b1.alloc (by omega) _)⟩

end Go.Proofs.YtmedbedpgbbdgaaDoor
