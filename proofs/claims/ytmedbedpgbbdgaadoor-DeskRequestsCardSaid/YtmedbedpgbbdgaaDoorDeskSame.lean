/- Walks: sameRequest and untouched, where they answer true. -/
import Derived.Test.YtmedbedpgbbdgaaDoorDeskWalks3
namespace Go.Proofs.YtmedbedpgbbdgaaDoor
open Go.RowKit
set_option linter.unusedVariables false

set_option maxHeartbeats 1000000 in
theorem sameReq_true (op ver oth lim : Int) (pk ph pb pk' ph' pb' : Option Addr) (nk ck nh ch nb cb nk' ck' nh' ch' nb' cb' : Nat) (key high batch key' high' batch' : List UInt8) (w : World)
    (hk : View w (.slice pk nk ck) nk 1 (bv key)) (hh : View w (.slice ph nh ch) nh 1 (bv high)) (hb : View w (.slice pb nb cb) nb 1 (bv batch))
    (hk' : View w (.slice pk' nk' ck') nk' 1 (bv key')) (hh' : View w (.slice ph' nh' ch') nh' 1 (bv high')) (hb' : View w (.slice pb' nb' cb') nb' 1 (bv batch'))
    (ek : key.take nk = key'.take nk') (eh : high.take nh = high'.take nh') (eb : batch.take nb = batch'.take nb') :
    Calls Tryd.prog 10 #[.agg #[.int .i64 op, .int .i64 ver, .int .i64 oth, .int .i64 lim, .slice pk nk ck, .slice ph nh ch, .slice pb nb cb], .agg #[.int .i64 op, .int .i64 ver, .int .i64 oth, .int .i64 lim, .slice pk' nk' ck', .slice ph' nh' ch', .slice pb' nb' cb']] w
      fun e w' => e = .returned (.bool true) ∧ Below w.heap.size w w' := by
  have tk : (key.take nk == key'.take nk') = true := by simp [ek]
  have th : (high.take nh == high'.take nh') = true := by simp [eh]
  have tb : (batch.take nb == batch'.take nb') = true := by simp [eb]
  clear ek eh eb
  go_enter Tryd.func10, Tryd.ntmps10
  go_wp2_with (with_reducible refine stB 24 ?_)
  refine ⟨bx rfl 24 (.tmp 0) rfl (v := .agg #[.int .i64 op, .int .i64 ver, .int .i64 oth, .int .i64 lim, .slice pk nk ck, .slice ph nh ch, .slice pb nb cb]) rfl ?_⟩
  intro W1 z1 h1 b1
  simp only [Value.cells] at h1
  go_wp2_with (with_reducible refine stB 24 ?_)
  refine ⟨bx rfl 24 (.tmp 1) rfl (v := .agg #[.int .i64 op, .int .i64 ver, .int .i64 oth, .int .i64 lim, .slice pk' nk' ck', .slice ph' nh' ch', .slice pb' nb' cb']) rfl ?_⟩
  intro W2 z2 h2 b2
  simp only [Value.cells] at h2
  rw [z1] at h2 b2
  obtain ⟨cA, fA⟩ := live ((b2.block w.heap.size (by omega)).trans h1)
  obtain ⟨cB, fB⟩ := live h2
  have bb : Below w.heap.size w W2 := b1.trans (b2.mono (by omega))
  clear h1 h2 b1 b2
  go_wp2_with (go_at_call 9; with_reducible refine stK ?_)
  refine ⟨(same_spec _ _ _ _ _ _ key key' W2 (hk.below bb) (hk'.below bb)).mono ?_⟩
  rintro e w' ⟨rfl, rfl⟩
  go_wp2_with (go_at_call 9; with_reducible refine stK ?_)
  refine ⟨(same_spec _ _ _ _ _ _ high high' W2 (hh.below bb) (hh'.below bb)).mono ?_⟩
  rintro e w' ⟨rfl, rfl⟩
  go_wp2_with (go_at_call 9; with_reducible refine stK ?_)
  refine ⟨(same_spec _ _ _ _ _ _ batch batch' W2 (hb.below bb) (hb'.below bb)).mono ?_⟩
  rintro e w' ⟨rfl, rfl⟩
  go_wp2
  go_ret
  exact ⟨rfl, bb⟩

set_option maxHeartbeats 1000000 in
theorem untouched_true (p q : Option Addr) (n c d : Nat) (l r : List UInt8) (w : World) (hp : View w (.slice p n c) n 1 (bv (l ++ [165, 90]))) (hl : l.length = n) (hq : View w (.slice q n d) n 1 (bv r)) (hr : r.take n = l) :
    Calls Tryd.prog 11 #[.slice p n c, .slice q n d] w fun e w' => e = .returned (.bool true) ∧ Below w.heap.size w w' := by
  have hc : n + 2 ≤ c := by
    rcases hp.2 with ⟨he, _, h5⟩ | ⟨b, off, cap, he, h4, _⟩
    · simp [bv] at h5
    · simp only [Value.slice.injEq] at he
      simp [bv, hl] at h4
      omega
  have hmax : c ≤ 9223372036854775807 := by
    rcases hp.2 with ⟨he, _, h5⟩ | ⟨b, off, cap, he, _, _, h6, _⟩
    · simp [bv] at h5
    · simp only [Value.slice.injEq] at he
      simp [maxLen] at h6
      omega
  have t1 : (l == r.take n) = true := by rw [hr]; simp
  have hp2 : View w (.slice p (n + 2) c) (n + 2) 1 (bv (l ++ [165, 90])) := by
    have := hp.cut0 (n + 2) c hc (Nat.le_refl _) (by simp [bv, hl])
    rwa [List.take_of_length_le (by simp [bv, hl]; omega)] at this
  clear hr
  go_enter Tryd.func11, Tryd.ntmps11
  go_wp2_with (go_at_call 9; with_reducible refine stK ?_)
  refine ⟨(same_spec _ _ _ _ _ _ (l ++ [165, 90]) r w hp hq).mono ?_⟩
  rintro e w' ⟨rfl, rfl⟩
  go_wp2_with (first | go_skip | (with_reducible refine stSg ?_))
  refine ⟨slcH sk22 rfl (.tmp 18) (.tmp 20) rfl (y := p) (n := n) (c := c) rfl (n + 2) rfl hc ?_⟩
  go_wp2_with (first | go_skip | (with_reducible refine stSg ?_))
  refine ⟨slcL sk22 rfl (.tmp 21) (.tmp 22) rfl (y := p) (n := n + 2) (c := c) rfl hp2 n rfl (by omega) ?_⟩
  intro p' h5 h6
  have h7 : View w (.slice p' 2 (c - n)) 2 1 (bv [165, 90]) := by
    have e : n + 2 - n = 2 := by omega
    rw [e] at h5
    have e2 : (bv (l ++ [165, 90])).drop (n * 1) = bv [165, 90] := by
      rw [Nat.mul_one, bv_drop, List.drop_append_of_le_length (by omega), List.drop_of_length_le (by omega)]
      rfl
    rwa [e2] at h5
  clear h5 h6 hp2
  rw [show n + 2 - n = 2 from by omega]
  go_wp2_with (go_at_call 9; with_reducible refine stK ?_)
  refine ⟨(same_spec _ _ _ _ _ _ [165, 90] [165, 90] _ (h7.alloc _) (byte_lit w 165 90)).mono ?_⟩
  rintro e w' ⟨rfl, rfl⟩
  go_wp2
  go_ret
  exact ⟨rfl, (Below.refl _ _).alloc (Nat.le_refl _) _⟩
end Go.Proofs.YtmedbedpgbbdgaaDoor
