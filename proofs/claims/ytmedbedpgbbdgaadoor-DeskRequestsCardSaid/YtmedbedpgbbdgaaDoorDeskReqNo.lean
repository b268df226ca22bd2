/- Walks: the document's Request, its refusals. Printed by gen_desk.py. -/
import Derived.Test.YtmedbedpgbbdgaaDoorDeskWalks3
namespace Go.Proofs.YtmedbedpgbbdgaaDoor
open Go.RowKit
set_option linter.unusedVariables false

set_option maxHeartbeats 1000000 in
set_option maxRecDepth 100000 in
theorem req_no (op ver oth lim : Int) (pk ph pb : Option Addr) (nk ck nh ch nb cb : Nat) (w : World) (h : op < 1 ∨ 9 < op) :
    Calls Tryd.prog 8 #[.agg #[.int .i64 op, .int .i64 ver, .int .i64 oth, .int .i64 lim, .slice pk nk ck, .slice ph nh ch, .slice pb nb cb]] w fun e w' => e = .returned (.tuple #[.slice none 0 0, .int .i64 200]) ∧ Below w.heap.size w w' := by
  have q1 : (op == 1) = false := by simp; omega
  have q2 : (op == 2) = false := by simp; omega
  have q3 : (op == 3) = false := by simp; omega
  have q4 : (op == 4) = false := by simp; omega
  have q5 : (op == 5) = false := by simp; omega
  have q6 : (op == 6) = false := by simp; omega
  have q7 : (op == 7) = false := by simp; omega
  have q8 : (op == 8) = false := by simp; omega
  have q9 : (op == 9) = false := by simp; omega
  go_enter Tryd.func8, Tryd.ntmps8
  go_wp2_with (with_reducible refine stB 24 ?_)
  refine ⟨bx rfl 24 (.tmp 0) rfl (v := .agg #[.int .i64 op, .int .i64 ver, .int .i64 oth, .int .i64 lim, .slice pk nk ck, .slice ph nh ch, .slice pb nb cb]) rfl ?_⟩
  intro W1 z1 h1 b1
  simp only [Value.cells] at h1
  obtain ⟨cA, fA⟩ := live h1
  clear h1 z1
  go_wp2_with (go_at_call 17; go_in)
  go_ret2
  exact ⟨rfl, b1⟩

set_option maxHeartbeats 1000000 in
set_option maxRecDepth 100000 in
theorem req_no_1 (ver oth lim : Int) (pk ph pb : Option Addr) (nk ck nh ch nb cb : Nat) (w : World) (h : 11999 < nb) :
    Calls Tryd.prog 8 #[.agg #[.int .i64 1, .int .i64 ver, .int .i64 oth, .int .i64 lim, .slice pk nk ck, .slice ph nh ch, .slice pb nb cb]] w fun e w' => e = .returned (.tuple #[.slice none 0 0, .int .i64 200]) ∧ Below w.heap.size w w' := by
  have q : decide (11999 < nb) = true := by simpa using h
  go_enter Tryd.func8, Tryd.ntmps8
  go_wp2_with (with_reducible refine stB 24 ?_)
  refine ⟨bx rfl 24 (.tmp 0) rfl (v := .agg #[.int .i64 1, .int .i64 ver, .int .i64 oth, .int .i64 lim, .slice pk nk ck, .slice ph nh ch, .slice pb nb cb]) rfl ?_⟩
  intro W1 z1 h1 b1
  simp only [Value.cells] at h1
  obtain ⟨cA, fA⟩ := live h1
  clear h1 z1
  go_wp2_with (go_at_call 17; go_in)
  go_ret2
  exact ⟨rfl, b1⟩

set_option maxHeartbeats 1000000 in
set_option maxRecDepth 100000 in
theorem req_no_2k (ver oth lim : Int) (pk ph pb : Option Addr) (nk ck nh ch nb cb : Nat) (w : World) (h : nk ≠ 32) :
    Calls Tryd.prog 8 #[.agg #[.int .i64 2, .int .i64 ver, .int .i64 oth, .int .i64 lim, .slice pk nk ck, .slice ph nh ch, .slice pb nb cb]] w fun e w' => e = .returned (.tuple #[.slice none 0 0, .int .i64 200]) ∧ Below w.heap.size w w' := by
  have q : ((nk : Int) != 32) = true := by simp; omega
  go_enter Tryd.func8, Tryd.ntmps8
  go_wp2_with (with_reducible refine stB 24 ?_)
  refine ⟨bx rfl 24 (.tmp 0) rfl (v := .agg #[.int .i64 2, .int .i64 ver, .int .i64 oth, .int .i64 lim, .slice pk nk ck, .slice ph nh ch, .slice pb nb cb]) rfl ?_⟩
  intro W1 z1 h1 b1
  simp only [Value.cells] at h1
  obtain ⟨cA, fA⟩ := live h1
  clear h1 z1
  go_wp2_with (go_at_call 17; go_in)
  go_ret2
  exact ⟨rfl, b1⟩

set_option maxHeartbeats 1000000 in
set_option maxRecDepth 100000 in
theorem req_no_4k (ver oth lim : Int) (pk ph pb : Option Addr) (nk ck nh ch nb cb : Nat) (w : World) (h : nk ≠ 32) :
    Calls Tryd.prog 8 #[.agg #[.int .i64 4, .int .i64 ver, .int .i64 oth, .int .i64 lim, .slice pk nk ck, .slice ph nh ch, .slice pb nb cb]] w fun e w' => e = .returned (.tuple #[.slice none 0 0, .int .i64 200]) ∧ Below w.heap.size w w' := by
  have q : ((nk : Int) != 32) = true := by simp; omega
  go_enter Tryd.func8, Tryd.ntmps8
  go_wp2_with (with_reducible refine stB 24 ?_)
  refine ⟨bx rfl 24 (.tmp 0) rfl (v := .agg #[.int .i64 4, .int .i64 ver, .int .i64 oth, .int .i64 lim, .slice pk nk ck, .slice ph nh ch, .slice pb nb cb]) rfl ?_⟩
  intro W1 z1 h1 b1
  simp only [Value.cells] at h1
  obtain ⟨cA, fA⟩ := live h1
  clear h1 z1
  go_wp2_with (go_at_call 17; go_in)
  go_ret2
  exact ⟨rfl, b1⟩

set_option maxHeartbeats 1000000 in
set_option maxRecDepth 100000 in
theorem req_no_5k (ver oth lim : Int) (pk ph pb : Option Addr) (nk ck nh ch nb cb : Nat) (w : World) (h : nk ≠ 32) :
    Calls Tryd.prog 8 #[.agg #[.int .i64 5, .int .i64 ver, .int .i64 oth, .int .i64 lim, .slice pk nk ck, .slice ph nh ch, .slice pb nb cb]] w fun e w' => e = .returned (.tuple #[.slice none 0 0, .int .i64 200]) ∧ Below w.heap.size w w' := by
  have q : ((nk : Int) != 32) = true := by simp; omega
  go_enter Tryd.func8, Tryd.ntmps8
  go_wp2_with (with_reducible refine stB 24 ?_)
  refine ⟨bx rfl 24 (.tmp 0) rfl (v := .agg #[.int .i64 5, .int .i64 ver, .int .i64 oth, .int .i64 lim, .slice pk nk ck, .slice ph nh ch, .slice pb nb cb]) rfl ?_⟩
  intro W1 z1 h1 b1
  simp only [Value.cells] at h1
  obtain ⟨cA, fA⟩ := live h1
  clear h1 z1
  go_wp2_with (go_at_call 17; go_in)
  go_ret2
  exact ⟨rfl, b1⟩

set_option maxHeartbeats 1000000 in
set_option maxRecDepth 100000 in
theorem req_no_6k (ver oth lim : Int) (pk ph pb : Option Addr) (nk ck nh ch nb cb : Nat) (w : World) (h : nk ≠ 32) :
    Calls Tryd.prog 8 #[.agg #[.int .i64 6, .int .i64 ver, .int .i64 oth, .int .i64 lim, .slice pk nk ck, .slice ph nh ch, .slice pb nb cb]] w fun e w' => e = .returned (.tuple #[.slice none 0 0, .int .i64 200]) ∧ Below w.heap.size w w' := by
  have q : ((nk : Int) != 32) = true := by simp; omega
  go_enter Tryd.func8, Tryd.ntmps8
  go_wp2_with (with_reducible refine stB 24 ?_)
  refine ⟨bx rfl 24 (.tmp 0) rfl (v := .agg #[.int .i64 6, .int .i64 ver, .int .i64 oth, .int .i64 lim, .slice pk nk ck, .slice ph nh ch, .slice pb nb cb]) rfl ?_⟩
  intro W1 z1 h1 b1
  simp only [Value.cells] at h1
  obtain ⟨cA, fA⟩ := live h1
  clear h1 z1
  go_wp2_with (go_at_call 17; go_in)
  go_ret2
  exact ⟨rfl, b1⟩

set_option maxHeartbeats 1000000 in
set_option maxRecDepth 100000 in
theorem req_no_5h (ver oth lim : Int) (pk ph pb : Option Addr) (nk ck nh ch nb cb : Nat) (w : World) (h : nh ≠ 32) (h0 : nk = 32) :
    Calls Tryd.prog 8 #[.agg #[.int .i64 5, .int .i64 ver, .int .i64 oth, .int .i64 lim, .slice pk nk ck, .slice ph nh ch, .slice pb nb cb]] w fun e w' => e = .returned (.tuple #[.slice none 0 0, .int .i64 200]) ∧ Below w.heap.size w w' := by
  subst h0
  have q : ((nh : Int) != 32) = true := by simp; omega
  go_enter Tryd.func8, Tryd.ntmps8
  go_wp2_with (with_reducible refine stB 24 ?_)
  refine ⟨bx rfl 24 (.tmp 0) rfl (v := .agg #[.int .i64 5, .int .i64 ver, .int .i64 oth, .int .i64 lim, .slice pk 32 ck, .slice ph nh ch, .slice pb nb cb]) rfl ?_⟩
  intro W1 z1 h1 b1
  simp only [Value.cells] at h1
  obtain ⟨cA, fA⟩ := live h1
  clear h1 z1
  go_wp2_with (go_at_call 17; go_in)
  go_ret2
  exact ⟨rfl, b1⟩

set_option maxHeartbeats 1000000 in
set_option maxRecDepth 100000 in
theorem req_no_6h (ver oth lim : Int) (pk ph pb : Option Addr) (nk ck nh ch nb cb : Nat) (w : World) (h : nh ≠ 32) (h0 : nk = 32) :
    Calls Tryd.prog 8 #[.agg #[.int .i64 6, .int .i64 ver, .int .i64 oth, .int .i64 lim, .slice pk nk ck, .slice ph nh ch, .slice pb nb cb]] w fun e w' => e = .returned (.tuple #[.slice none 0 0, .int .i64 200]) ∧ Below w.heap.size w w' := by
  subst h0
  have q : ((nh : Int) != 32) = true := by simp; omega
  go_enter Tryd.func8, Tryd.ntmps8
  go_wp2_with (with_reducible refine stB 24 ?_)
  refine ⟨bx rfl 24 (.tmp 0) rfl (v := .agg #[.int .i64 6, .int .i64 ver, .int .i64 oth, .int .i64 lim, .slice pk 32 ck, .slice ph nh ch, .slice pb nb cb]) rfl ?_⟩
  intro W1 z1 h1 b1
  simp only [Value.cells] at h1
  obtain ⟨cA, fA⟩ := live h1
  clear h1 z1
  go_wp2_with (go_at_call 17; go_in)
  go_ret2
  exact ⟨rfl, b1⟩

set_option maxHeartbeats 1000000 in
set_option maxRecDepth 100000 in
theorem req_no_6l (ver oth lim : Int) (pk ph pb : Option Addr) (nk ck nh ch nb cb : Nat) (w : World) (h : lim < 0) (h0 : nk = 32) (h1 : nh = 32) :
    Calls Tryd.prog 8 #[.agg #[.int .i64 6, .int .i64 ver, .int .i64 oth, .int .i64 lim, .slice pk nk ck, .slice ph nh ch, .slice pb nb cb]] w fun e w' => e = .returned (.tuple #[.slice none 0 0, .int .i64 200]) ∧ Below w.heap.size w w' := by
  subst h0
  subst h1
  go_enter Tryd.func8, Tryd.ntmps8
  go_wp2_with (with_reducible refine stB 24 ?_)
  refine ⟨bx rfl 24 (.tmp 0) rfl (v := .agg #[.int .i64 6, .int .i64 ver, .int .i64 oth, .int .i64 lim, .slice pk 32 ck, .slice ph 32 ch, .slice pb nb cb]) rfl ?_⟩
  intro W1 z1 h1 b1
  simp only [Value.cells] at h1
  obtain ⟨cA, fA⟩ := live h1
  clear h1 z1
  go_wp2_with (go_at_call 17; go_in)
  go_ret2
  exact ⟨rfl, b1⟩

set_option maxHeartbeats 1000000 in
set_option maxRecDepth 100000 in
theorem req_no_6m (ver oth lim : Int) (pk ph pb : Option Addr) (nk ck nh ch nb cb : Nat) (w : World) (h : 4294967295 < lim) (h0 : nk = 32) (h1 : nh = 32) :
    Calls Tryd.prog 8 #[.agg #[.int .i64 6, .int .i64 ver, .int .i64 oth, .int .i64 lim, .slice pk nk ck, .slice ph nh ch, .slice pb nb cb]] w fun e w' => e = .returned (.tuple #[.slice none 0 0, .int .i64 200]) ∧ Below w.heap.size w w' := by
  subst h0
  subst h1
  go_enter Tryd.func8, Tryd.ntmps8
  go_wp2_with (with_reducible refine stB 24 ?_)
  refine ⟨bx rfl 24 (.tmp 0) rfl (v := .agg #[.int .i64 6, .int .i64 ver, .int .i64 oth, .int .i64 lim, .slice pk 32 ck, .slice ph 32 ch, .slice pb nb cb]) rfl ?_⟩
  intro W1 z1 h1 b1
  simp only [Value.cells] at h1
  obtain ⟨cA, fA⟩ := live h1
  clear h1 z1
  go_wp2_with (go_at_call 17; go_in)
  go_ret2
  exact ⟨rfl, b1⟩

end Go.Proofs.YtmedbedpgbbdgaaDoor
