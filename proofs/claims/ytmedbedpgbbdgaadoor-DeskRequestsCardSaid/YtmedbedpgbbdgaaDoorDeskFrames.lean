/- The walk of DeskFrames: whatever the bytes, it returns true. -/
import Derived.Test.YtmedbedpgbbdgaaDoorDeskAll2
import Derived.Test.YtmedbedpgbbdgaaDoorDeskSame
namespace Go.Proofs.YtmedbedpgbbdgaaDoor
open Go.RowKit
set_option linter.unusedVariables false

theorem VA.view {w : World} {v : Value} {n lo : Nat} {l : List UInt8} (h : VA w v n l lo) : View w v n 1 (bv l) := h.1
theorem VA.len {w : World} {v : Value} {n lo : Nat} {l : List UInt8} (h : VA w v n l lo) : l.length = n := h.2.1

theorem take_all {l : List UInt8} {n : Nat} (h : l.length = n) : l.take n = l := List.take_of_length_le (by omega)

set_option maxHeartbeats 4000000 in
set_option maxRecDepth 100000 in
theorem frames_true (p : Option Addr) (m c : Nat) (l : List UInt8) (w : World) (hv : View w (.slice p m c) m 1 (bv l)) (hl : l.length = m) (hm : m ≤ 140737488355328)
    (hg : 2 < w.heap.size) (hs : Cells w 2 0 shapeCells) :
    Calls Tryd.prog 4 #[.slice p m c] w fun e w' => e = .returned (.bool true) ∧ Below w.heap.size w w' := by
  have HL := Lib.hid hl
  clear hl
  go_enter Tryd.func4, Tryd.ntmps4
  go_wp2_with (with_reducible refine stA ?_)
  refine ⟨appB sk22 rfl (.tmp 9) (.tmp 10) rfl w.heap.size (v := .slice (some ⟨w.heap.size, 0, none⟩) 0 0) (xs := []) rfl rfl (World.ownsRow_made w #[] 0 (Nat.le_refl _) (by decide) rfl) (hv.alloc _) (by simp) m (by simp) hm l (by simp [take_all HL.out]) ?_⟩
  intro p1 c1 W1 ho1 hg1
  have b1 : Below w.heap.size w W1 := below_own (e := 5) (size := 1) ((Below.refl _ _).alloc (Nat.le_refl _) _) hg1 (World.ownsRow_made w #[] 0 (Nat.le_refl _) (by decide) rfl) (by simp)
  have s1 := b1.size
  clear hg1
  go_wp2_with (go_at_call 12; with_reducible refine stK ?_)
  refine ⟨(dec_all p1 m c1 l W1 (View.own ho1) HL.out (by omega) (hs.below hg b1)).mono ?_⟩
  rintro e W2 (⟨hD, rfl, b2⟩ | ⟨q, pk, nk, ck, ph, nh, ch, pb, nb, cb, hD, rfl, b2, vk, vh, vb⟩)
  · have HD := Lib.hid hD
    clear hD
    have bb2 := b1.trans (b2.mono s1)
    have s2 := bb2.size
    go_wp2_with (with_reducible refine stAl 24 ?_)
    refine ⟨al rfl 24 rfl (z := .agg #[.int .i64 0, .int .i64 0, .int .i64 0, .int .i64 0, .slice none 0 0, .slice none 0 0, .slice none 0 0]) (by kernel_rfl) ?_⟩
    intro W3 z3 h3 b3
    simp only [Value.cells] at h3
    go_wp2_with (with_reducible refine stW 24 ?_)
    refine ⟨stRow rfl 24 (.tmp 3) (.tmp 13) rfl rfl h3 (c' := #[.int .i64 0, .int .i64 0, .int .i64 0, .int .i64 0, .slice none 0 0, .slice none 0 0, .slice none 0 0]) rfl (by kernel_rfl) rfl (by simp [Value.oneCell']) ?_⟩
    clear h3
    intro W4 z4 h4 g4
    have H4 := Lib.hid h4
    clear h4
    have b4 : Below W2.heap.size W2 W4 := b3.grown g4 (by omega) (by simp)
    have bb4 := bb2.trans (b4.mono s2)
    have s4 := bb4.size
    go_wp2_with (go_at_call 13; with_reducible refine stK ?_)
    refine ⟨(asked_all p m c l W4 (hv.below bb4) HL.out).mono ?_⟩
    rintro e W5 (⟨hA, rfl, b5⟩ | ⟨q', pk, nk, ck, ph, nh, ch, pb, nb, cb, hA, _⟩)
    rotate_left
    · rw [HD.out] at hA; cases hA
    clear hA
    have bb5 := bb4.trans (b5.mono s4)
    have s5 := bb5.size
    have H5 := Lib.hid ((b5.block W2.heap.size (by omega)).trans H4.out)
    go_wp2_with (with_reducible refine stAl 24 ?_)
    refine ⟨al rfl 24 rfl (z := .agg #[.int .i64 0, .int .i64 0, .int .i64 0, .int .i64 0, .slice none 0 0, .slice none 0 0, .slice none 0 0]) (by kernel_rfl) ?_⟩
    intro W6 z6 h6 b6
    simp only [Value.cells] at h6
    go_wp2_with (with_reducible refine stW 24 ?_)
    refine ⟨stRow rfl 24 (.tmp 5) (.tmp 18) rfl rfl h6 (c' := #[.int .i64 0, .int .i64 0, .int .i64 0, .int .i64 0, .slice none 0 0, .slice none 0 0, .slice none 0 0]) rfl (by kernel_rfl) rfl (by simp [Value.oneCell']) ?_⟩
    clear h6
    intro W7 z7 h7 g7
    have b7 : Below W5.heap.size W5 W7 := b6.grown g7 (by omega) (by simp)
    have bb7 := bb5.trans (b7.mono s5)
    have s7 := bb7.size
    have l5 : W4.heap.size ≤ W5.heap.size := b5.size
    have H7 := Lib.hid ((b7.block W2.heap.size (by omega)).trans H5.out)
    obtain ⟨cA, fA⟩ := live H7.out
    obtain ⟨cB, fB⟩ := live h7
    clear h7
    go_wp2_with (go_at_call 10; with_reducible refine stK ?_)
    refine ⟨(sameReq_true 0 0 0 0 none none none none none none 0 0 0 0 0 0 0 0 0 0 0 0 [] [] [] [] [] [] W7 (View.nil _ _) (View.nil _ _) (View.nil _ _) (View.nil _ _) (View.nil _ _) (View.nil _ _) rfl rfl rfl).mono ?_⟩
    rintro e W8 ⟨rfl, b8⟩
    have bb8 := bb7.trans (b8.mono s7)
    have s8 := bb8.size
    have H8 := Lib.hid ((b8.block W2.heap.size (by omega)).trans H7.out)
    clear cA fA cB fB
    go_wp2_with (go_at_call 12; with_reducible refine stK ?_)
    have bb8' := bb8.alloc s8 (.cells #[.int .u8 9] 5)
    refine ⟨(dec_all _ 1 1 [9] _ (byte_lit1 W8 9) rfl (by simp; omega) (hs.below hg bb8')).mono ?_⟩
    rintro e W9 (⟨h9, _⟩ | ⟨q, pk, nk, ck, ph, nh, ch, pb, nb, cb, h9, rfl, b9, _⟩)
    · simp [decS] at h9
    obtain rfl : q = ⟨9, 0, 0, 0, [], [], []⟩ := by simpa [decS] using h9.symm
    clear h9
    have l8 : W7.heap.size ≤ W8.heap.size := b8.size
    have l9 : W8.heap.size + 1 ≤ W9.heap.size := by have := b9.size; simpa using this
    have bb9 := bb8'.trans (b9.mono (by simp; omega))
    have H9 : W9.heap[W2.heap.size]? = _ := (b9.block W2.heap.size (by simp; omega)).trans ((Below.heap_alloc W8 _ _ (by omega)).trans H8.out)
    go_wp2_with (with_reducible refine stW 24 ?_)
    refine ⟨stRow rfl 24 (.tmp 3) (.tmp 34) rfl rfl H9 (c' := #[.int .i64 9, .int .i64 0, .int .i64 0, .int .i64 0, .slice pk nk ck, .slice ph nh ch, .slice pb nb cb]) rfl (by kernel_rfl) rfl (by simp [Value.oneCell']) ?_⟩
    intro W10 z10 h10 g10
    have bb10 : Below w.heap.size w W10 := bb9.grown g10 (by omega) (by simp; omega)
    obtain ⟨cA, fA⟩ := live h10
    clear h10 H9
    go_wp2
    go_ret
    exact ⟨rfl, bb10⟩
  · have HD := Lib.hid hD
    clear hD
    have bb2 := b1.trans (b2.mono s1)
    have s2 := bb2.size
    go_wp2_with (with_reducible refine stAl 24 ?_)
    refine ⟨al rfl 24 rfl (z := .agg #[.int .i64 0, .int .i64 0, .int .i64 0, .int .i64 0, .slice none 0 0, .slice none 0 0, .slice none 0 0]) (by kernel_rfl) ?_⟩
    intro W3 z3 h3 b3
    simp only [Value.cells] at h3
    go_wp2_with (with_reducible refine stW 24 ?_)
    refine ⟨stRow rfl 24 (.tmp 3) (.tmp 13) rfl rfl h3 (c' := #[.int .i64 q.op, .int .i64 q.ver, .int .i64 q.oth, .int .i64 q.lim, .slice pk nk ck, .slice ph nh ch, .slice pb nb cb]) rfl (by kernel_rfl) rfl (by simp [Value.oneCell']) ?_⟩
    clear h3
    intro W4 z4 h4 g4
    have H4 := Lib.hid h4
    clear h4
    have b4 : Below W2.heap.size W2 W4 := b3.grown g4 (by omega) (by simp)
    have bb4 := bb2.trans (b4.mono s2)
    have s4 := bb4.size
    replace vk := vk.below b4
    replace vh := vh.below b4
    replace vb := vb.below b4
    go_wp2_with (go_at_call 13; with_reducible refine stK ?_)
    refine ⟨(asked_all p m c l W4 (hv.below bb4) HL.out).mono ?_⟩
    rintro e W5 (⟨hA, _⟩ | ⟨q', pk', nk', ck', ph', nh', ch', pb', nb', cb', hA, rfl, b5, vk', vh', vb'⟩)
    · rw [HD.out] at hA; cases hA
    obtain rfl : q = q' := by rw [HD.out] at hA; exact Option.some.inj hA
    clear hA
    have bb5 := bb4.trans (b5.mono s4)
    have s5 := bb5.size
    replace vk := vk.below b5
    replace vh := vh.below b5
    replace vb := vb.below b5
    have H5 := Lib.hid ((b5.block W2.heap.size (by omega)).trans H4.out)
    go_wp2_with (with_reducible refine stAl 24 ?_)
    refine ⟨al rfl 24 rfl (z := .agg #[.int .i64 0, .int .i64 0, .int .i64 0, .int .i64 0, .slice none 0 0, .slice none 0 0, .slice none 0 0]) (by kernel_rfl) ?_⟩
    intro W6 z6 h6 b6
    simp only [Value.cells] at h6
    go_wp2_with (with_reducible refine stW 24 ?_)
    refine ⟨stRow rfl 24 (.tmp 5) (.tmp 18) rfl rfl h6 (c' := #[.int .i64 q.op, .int .i64 q.ver, .int .i64 q.oth, .int .i64 q.lim, .slice pk' nk' ck', .slice ph' nh' ch', .slice pb' nb' cb']) rfl (by kernel_rfl) rfl (by simp [Value.oneCell']) ?_⟩
    clear h6
    intro W7 z7 h7 g7
    have b7 : Below W5.heap.size W5 W7 := b6.grown g7 (by omega) (by simp)
    have bb7 := bb5.trans (b7.mono s5)
    have s7 := bb7.size
    have l5 : W4.heap.size ≤ W5.heap.size := b5.size
    replace vk := vk.below b7
    replace vh := vh.below b7
    replace vb := vb.below b7
    replace vk' := vk'.below b7
    replace vh' := vh'.below b7
    replace vb' := vb'.below b7
    have H7 := Lib.hid ((b7.block W2.heap.size (by omega)).trans H5.out)
    obtain ⟨cA, fA⟩ := live H7.out
    obtain ⟨cB, fB⟩ := live h7
    clear h7
    go_wp2_with (go_at_call 10; with_reducible refine stK ?_)
    refine ⟨(sameReq_true q.op q.ver q.oth q.lim pk ph pb pk' ph' pb' nk ck nh ch nb cb nk' ck' nh' ch' nb' cb' q.key q.high q.batch q.key q.high q.batch W7 vk.1 vh.1 vb.1 vk'.1 vh'.1 vb'.1
      (by rw [take_all vk.len, take_all vk'.len]) (by rw [take_all vh.len, take_all vh'.len]) (by rw [take_all vb.len, take_all vb'.len])).mono ?_⟩
    rintro e W8 ⟨rfl, b8⟩
    have bb8 := bb7.trans (b8.mono s7)
    have s8 := bb8.size
    replace vk := vk.below b8
    replace vh := vh.below b8
    replace vb := vb.below b8
    have H8 := Lib.hid ((b8.block W2.heap.size (by omega)).trans H7.out)
    clear cA fA cB fB
    obtain ⟨cA, fA⟩ := live H8.out
    go_wp2_with (go_at_call 7; with_reducible refine stK ?_)
    refine ⟨(enc_all q.op q.ver q.oth q.lim pk ph pb nk ck nh ch nb cb q.key q.high q.batch W8 vk.1 vk.len vh.1 vh.len vb.1 vb.len (by omega) (hs.below hg bb8)).mono ?_⟩
    have hE := enc_dec l q HD.out
    rintro e W9 (⟨h9, _⟩ | ⟨L, p9, c9, h9, rfl, o9, b9⟩)
    · have h9' : encS q = none := h9
      rw [hE] at h9'; cases h9'
    have h9' : encS q = some L := h9
    obtain rfl : l = L := by rw [hE] at h9'; exact Option.some.inj h9'
    clear h9 h9' hE
    have bb9 := bb8.trans (b9.mono s8)
    have tt : (l == l.take m) = true := by rw [take_all HL.out]; simp
    clear cA fA
    go_wp2_with (first | go_skip | (go_at_call 9; with_reducible refine stK ?_))
    refine ⟨(same_spec _ _ _ _ _ _ l l W9 (View.own o9) (hv.below bb9)).mono ?_⟩
    rintro e W10 ⟨rfl, rfl⟩
    go_wp2
    go_ret
    exact ⟨rfl, bb9⟩
end Go.Proofs.YtmedbedpgbbdgaaDoor
