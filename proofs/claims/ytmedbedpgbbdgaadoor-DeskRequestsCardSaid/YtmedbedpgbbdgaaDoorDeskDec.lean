/- Walks: the program's DecodeRequest, kind by kind. Printed by gen_desk.py. -/
import Derived.Test.YtmedbedpgbbdgaaDoorDeskWalks3
namespace Go.Proofs.YtmedbedpgbbdgaaDoor
open Go.RowKit
set_option linter.unusedVariables false

/-- whether the bytes behind the kind 1 are just its fields -/
def decD1 (l : List UInt8) : Bool := (!(shortBy false (l) l.length) && ((leftBy false (l) l.length)).isEmpty)

set_option maxHeartbeats 2000000 in
set_option maxRecDepth 100000 in
theorem dec_1 (p : Option Addr) (m c : Nat) (l : List UInt8) (w : World) (hv : View w (.slice p m c) m 1 (bv (1 :: l))) (hm : m = l.length + 1) (hmax : m ≤ 12000)
    (hg : 2 < w.heap.size) (hs : Cells w 2 6 [.bool true, .bool false, .bool false, .bool false, .bool false, .bool false]) :
    Calls Tryd.prog 12 #[.slice p m c] w fun e w' => (decD1 l = false ∧ e = .returned (.tuple #[.agg #[.int .i64 0, .int .i64 0, .int .i64 0, .int .i64 0, .slice none 0 0, .slice none 0 0, .slice none 0 0], .int .i64 200]) ∧ Below w.heap.size w w') ∨
      (decD1 l = true ∧ ∃ pk nk ck ph nh ch pb nb cb, e = .returned (.tuple #[.agg #[.int .i64 1, .int .i64 0, .int .i64 0, .int .i64 0, .slice pk nk ck, .slice ph nh ch, .slice pb nb cb], .int .i64 0]) ∧ Below w.heap.size w w' ∧
        VA w' (.slice pk nk ck) nk [] w.heap.size ∧ VA w' (.slice ph nh ch) nh [] w.heap.size ∧ VA w' (.slice pb nb cb) nb (gives false (l) l.length) w.heap.size) := by
  have q0 : ((m : Int) == 0) = false := by simp; omega
  have q1 : decide ((12000 : Int) < (m : Int)) = false := by simp; omega
  have q2 : 1 ≤ m := by omega
  have hcap : m ≤ c := by
    rcases hv.2 with ⟨he, h4, h5⟩ | ⟨b, off, cap, he, h4, h5, _⟩
    · simp [bv] at h5
    · simp only [Value.slice.injEq] at he; omega
  have hm' := Lib.hid hm
  clear hm
  go_enter Tryd.func12, Tryd.ntmps12
  go_wp2_with (with_reducible refine stAl 24 ?_)
  refine ⟨al rfl 24 rfl (z := .agg #[.int .i64 0, .int .i64 0, .int .i64 0, .int .i64 0, .slice none 0 0, .slice none 0 0, .slice none 0 0]) (by kernel_rfl) ?_⟩
  intro W1 z1 h1 b1
  simp only [Value.cells] at h1
  have HA1 := Lib.hid h1
  clear h1
  go_wp2_with (first | go_skip | (with_reducible refine stIg 22 ?_))
  refine ⟨idx sk22 rfl (.tmp 16) (.const (.int .i64 0)) rfl rfl (hv.below b1) rfl 0 rfl (by omega) ?_⟩
  intro b' off' hc' hb'
  have hc1 : W1.cell? ⟨b', off', none⟩ = some (.int .u8 1) := by
    have := hc' 0 (.int .u8 1) rfl
    simpa using this
  clear hc'
  go_wp2_with (first | go_skip | (go_at_call 15; go_in) | (with_reducible refine stIg 22 ?_))
  refine ⟨idx sk22 rfl (.tmp 24) (.const (.int .i64 0)) rfl rfl (hv.below b1) rfl 0 rfl (by omega) ?_⟩
  intro b'' off'' hc' hb''
  have hc2 : W1.cell? ⟨b'', off'', none⟩ = some (.int .u8 1) := by
    have := hc' 0 (.int .u8 1) rfl
    simpa using this
  clear hc' hc1 hb' hb''
  go_wp2_with (with_reducible refine stAl 24 ?_)
  refine ⟨al rfl 24 rfl (z := .agg #[.int .i64 0, .int .i64 0, .int .i64 0, .int .i64 0, .slice none 0 0, .slice none 0 0, .slice none 0 0]) (by kernel_rfl) ?_⟩
  intro W2 z2 h2 b2
  simp only [Value.cells] at h2
  rw [z1] at h2 b2
  have HA2 := Lib.hid ((b2.block w.heap.size (by omega)).trans HA1.out)
  have bb2 : Below w.heap.size w W2 := b1.trans (b2.mono (by omega))
  clear hc2 HA1
  go_wp2_with (with_reducible refine stW 24 ?_)
  refine ⟨stRow rfl 24 (.tmp 4) (.tmp 28) rfl rfl h2 rfl (by kernel_rfl) rfl (by simp [Value.oneCell']) ?_⟩
  clear h2
  intro W3 z3 h3 g3
  obtain ⟨cQ, fQ⟩ := live h3
  have HQ3 := Lib.hid h3
  have HA3 := Lib.hid (keep g3 HA2.out (by omega))
  have bb3 : Below w.heap.size w W3 := bb2.grown g3 (by omega) (by simp)
  clear h3 HA2
  go_wp2_with (with_reducible refine stL 45 ?_)
  refine ⟨ldRow rfl 45 (.tmp 31) rfl rfl _ (hs.below hg bb3) Tryd.underlying45 rfl (by kernel_rfl) ?_⟩
  go_wp2_with (with_reducible refine stAl 45 ?_)
  have y3 : W3.heap.size = w.heap.size + 2 := by omega
  refine ⟨al rfl 45 rfl (z := .agg #[.bool false, .bool false, .bool false, .bool false, .bool false, .bool false]) (by kernel_rfl) ?_⟩
  intro W4 z4 h4 b4
  simp only [Value.cells] at h4
  rw [y3] at h4 b4
  have HA4 := Lib.hid ((b4.block w.heap.size (by omega)).trans HA3.out)
  have HQ4 := Lib.hid ((b4.block (w.heap.size + 1) (by omega)).trans HQ3.out)
  have bb4 : Below w.heap.size w W4 := bb3.trans (b4.mono (by omega))
  clear cQ fQ HA3 HQ3
  go_wp2_with (with_reducible refine stW 45 ?_)
  refine ⟨stRow rfl 45 (.tmp 5) (.tmp 32) rfl rfl h4 rfl (by kernel_rfl) rfl (by simp [Value.oneCell']) ?_⟩
  clear h4
  intro W5 z5 h5 g5
  have HA5 := Lib.hid (keep g5 HA4.out (by omega))
  have HQ5 := Lib.hid (keep g5 HQ4.out (by omega))
  have bb5 : Below w.heap.size w W5 := bb4.grown g5 (by omega) (by simp; omega)
  have HF5 := Lib.hid h5
  clear h5 HA4 HQ4
  go_wp2_with (with_reducible refine stS ?_)
  have hv5 : View W5 (.slice p m c) m 1 (bv (1 :: l)) := hv.below bb5
  refine ⟨slcL sk22 rfl (.tmp 33) (.const (.int .i64 1)) rfl (y := p) (n := m) (c := c) rfl hv5 1 rfl (by omega) ?_⟩
  intro p2 v2 o2
  go_wp2_with (with_reducible refine stB 53 ?_)
  have y5 : W5.heap.size = w.heap.size + 3 := by omega
  refine ⟨bx rfl 53 (.tmp 35) rfl (v := .agg #[.slice p2 (m - 1) (c - 1), .bool false]) rfl ?_⟩
  intro W6 z6 h6 b6
  simp only [Value.cells] at h6
  rw [y5] at h6 b6 z6
  have HA6 := Lib.hid ((b6.block w.heap.size (by omega)).trans HA5.out)
  have HQ6 := Lib.hid ((b6.block (w.heap.size + 1) (by omega)).trans HQ5.out)
  have HF6 := Lib.hid ((b6.block (w.heap.size + 2) (by omega)).trans HF5.out)
  have bb6 : Below w.heap.size w W6 := bb5.trans (b6.mono (by omega))
  have hl := hm'.out
  have hr6 : RdIs W6 (w.heap.size + 3) w.heap.size p2 (m - 1) (c - 1) false l :=
    ⟨h6, (by simpa [bv] using v2.below (by rw [y5]; exact b6)), by omega, fun k hk => hv.lt k (o2 k hk), by omega⟩
  have y6 : w.heap.size + 4 ≤ W6.heap.size := by omega
  clear v2 h6 HA5 HQ5 HF5 hv5 b6 z1 z2 z3 z4 z5 y3 b1 b2 b4 g3 g5 bb2 bb3 bb4 bb5 hl
  obtain ⟨cF, fF⟩ := live HF6.out
  obtain ⟨cR, fR⟩ := live hr6.1
  go_wp2_with (first | (go_at_call 19; with_reducible refine stK ?_) | (go_at_call 20; with_reducible refine stK ?_) | (go_at_call 21; with_reducible refine stK ?_))
  clear cR fR
  refine ⟨(copied_spec (w.heap.size + 3) w.heap.size _ _ _ _ _ (m - 1) _ hr6 (by omega)).mono ?_⟩
  rintro e W7 ⟨q7, d7, p7, m7, c7, rfl, hr7, hg7, ho7⟩
  have em : m - 1 = l.length := by have := hm'.out; omega
  rw [em] at hr7 ho7
  rw [em]
  have HA7 := Lib.hid (keep hg7 HA6.out (by omega))
  have HQ7 := Lib.hid (keep hg7 HQ6.out (by omega))
  have HF7 := Lib.hid (keep hg7 HF6.out (by omega))
  have bb7 : Below w.heap.size w W7 := bb6.grown hg7 (by omega) (by simp)
  have y7 : w.heap.size + 4 ≤ W7.heap.size := by have := hg7.size; omega
  have vB7 := (VA.own ho7).low y6
  clear cF fF
  obtain ⟨cF, fF⟩ := live HF7.out
  go_wp2_with (with_reducible refine stW 22 ?_)
  refine ⟨stCell rfl 22 (.tmp 46) (.tmp 45) rfl rfl HQ7.out (v := .slice q7 (gives false (l) l.length).length d7) rfl rfl (by kernel_rfl) (by simp) ?_⟩
  intro W8 z8 h8 g8
  have HQ8 : Hid (W8.heap[w.heap.size + 1]? = some (.cells #[.int .i64 1, .int .i64 0, .int .i64 0, .int .i64 0, .slice none 0 0, .slice none 0 0, .slice q7 (gives false (l) l.length).length d7] 24 (0, 0))) := h8
  have HA8 := Lib.hid (keep g8 HA7.out (by omega))
  have HF8 := Lib.hid (keep g8 HF7.out (by omega))
  have rdne7 : ∀ k, (Value.slice p7 m7 c7).ownBlock = some k → some k ≠ some (w.heap.size + 1) := fun k hk => by have := hr7.2.2.2.1 k hk; simp; omega
  have hr8 : RdIs W8 (w.heap.size + 3) w.heap.size _ _ _ _ _ := ⟨keep g8 hr7.1 (by omega), hr7.2.1.grown g8 (fun k hk => rdne7 k hk), hr7.2.2⟩
  have bb8 : Below w.heap.size w W8 := bb7.grown g8 (by omega) (by simp)
  have y8 : w.heap.size + 4 ≤ W8.heap.size := by omega
  have vB8 := vB7.grown g8 (by omega)
  clear cF fF h8
  obtain ⟨cF, fF⟩ := live HF8.out
  go_wp2_with (first | (go_at_call 19; with_reducible refine stK ?_) | (go_at_call 20; with_reducible refine stK ?_) | (go_at_call 21; with_reducible refine stK ?_))
  refine ⟨(done_spec (w.heap.size + 3) w.heap.size _ _ _ _ _ _ hr8).mono ?_⟩
  rintro e W ⟨rfl, rfl⟩
  obtain ⟨cQ, fQ⟩ := live HQ8.out
  rw [show (!(shortBy false (l) l.length) && ((leftBy false (l) l.length)).isEmpty) = decD1 l from rfl]
  cases hD : decD1 l with
  | false =>
    go_wp2_with (with_reducible refine stW 24 ?_)
    refine ⟨stRow rfl 24 (.tmp 2) (.tmp 78) rfl rfl HA8.out rfl (by kernel_rfl) rfl (by simp [Value.oneCell']) ?_⟩
    intro W9 z9 h9 g9
    obtain ⟨cA, fA⟩ := live h9
    clear h9
    have bb9 : Below w.heap.size w W9 := bb8.grown g9 (by omega) (by simp)
    go_wp2
    refine bodyPost_ret (v := .tuple #[.agg #[.int .i64 0, .int .i64 0, .int .i64 0, .int .i64 0, .slice none 0 0, .slice none 0 0, .slice none 0 0], .int .i64 200]) (by simp [results, Tryd.results12, go_sem, cA]) rfl (.inl ⟨hD, rfl, bb9⟩)
  | true =>
    go_wp2_with (with_reducible refine stW 24 ?_)
    refine ⟨stRow rfl 24 (.tmp 2) (.tmp 79) rfl rfl HA8.out (c' := #[.int .i64 1, .int .i64 0, .int .i64 0, .int .i64 0, .slice none 0 0, .slice none 0 0, .slice q7 (gives false (l) l.length).length d7]) rfl (by kernel_rfl) rfl (by simp [Value.oneCell']) ?_⟩
    intro W9 z9 h9 g9
    obtain ⟨cA, fA⟩ := live h9
    clear h9
    have bb9 : Below w.heap.size w W9 := bb8.grown g9 (by omega) (by simp)
    go_wp2
    refine bodyPost_ret (v := .tuple #[.agg #[.int .i64 1, .int .i64 0, .int .i64 0, .int .i64 0, .slice none 0 0, .slice none 0 0, .slice q7 (gives false (l) l.length).length d7], .int .i64 0]) (by simp [results, Tryd.results12, go_sem, cA]) rfl (.inr ⟨hD, _, _, _, _, _, _, _, _, _, rfl, bb9, (VA.nil _ _), (VA.nil _ _), ((vB8.grown g9 (by omega)).low (by omega))⟩)

/-- whether the bytes behind the kind 2 are just its fields -/
def decD2 (l : List UInt8) : Bool := (!(shortBy (shortBy false (l) 32) ((leftBy false (l) 32)) 8) && ((leftBy (shortBy false (l) 32) ((leftBy false (l) 32)) 8)).isEmpty)

set_option maxHeartbeats 2000000 in
set_option maxRecDepth 100000 in
theorem dec_2 (p : Option Addr) (m c : Nat) (l : List UInt8) (w : World) (hv : View w (.slice p m c) m 1 (bv (2 :: l))) (hm : m = l.length + 1) (hmax : m ≤ 12000)
    (hg : 2 < w.heap.size) (hs : Cells w 2 12 [.bool false, .bool true, .bool false, .bool true, .bool false, .bool false]) :
    Calls Tryd.prog 12 #[.slice p m c] w fun e w' => (decD2 l = false ∧ e = .returned (.tuple #[.agg #[.int .i64 0, .int .i64 0, .int .i64 0, .int .i64 0, .slice none 0 0, .slice none 0 0, .slice none 0 0], .int .i64 200]) ∧ Below w.heap.size w w') ∨
      (decD2 l = true ∧ ∃ pk nk ck ph nh ch pb nb cb, e = .returned (.tuple #[.agg #[.int .i64 2, .int .i64 (wrap64 (numLE (gives (shortBy false (l) 32) ((leftBy false (l) 32)) 8))), .int .i64 0, .int .i64 0, .slice pk nk ck, .slice ph nh ch, .slice pb nb cb], .int .i64 0]) ∧ Below w.heap.size w w' ∧
        VA w' (.slice pk nk ck) nk (gives false (l) 32) w.heap.size ∧ VA w' (.slice ph nh ch) nh [] w.heap.size ∧ VA w' (.slice pb nb cb) nb [] w.heap.size) := by
  have q0 : ((m : Int) == 0) = false := by simp; omega
  have q1 : decide ((12000 : Int) < (m : Int)) = false := by simp; omega
  have q2 : 1 ≤ m := by omega
  have hcap : m ≤ c := by
    rcases hv.2 with ⟨he, h4, h5⟩ | ⟨b, off, cap, he, h4, h5, _⟩
    · simp [bv] at h5
    · simp only [Value.slice.injEq] at he; omega
  have hm' := Lib.hid hm
  clear hm
  go_enter Tryd.func12, Tryd.ntmps12
  go_wp2_with (with_reducible refine stAl 24 ?_)
  refine ⟨al rfl 24 rfl (z := .agg #[.int .i64 0, .int .i64 0, .int .i64 0, .int .i64 0, .slice none 0 0, .slice none 0 0, .slice none 0 0]) (by kernel_rfl) ?_⟩
  intro W1 z1 h1 b1
  simp only [Value.cells] at h1
  have HA1 := Lib.hid h1
  clear h1
  go_wp2_with (first | go_skip | (with_reducible refine stIg 22 ?_))
  refine ⟨idx sk22 rfl (.tmp 16) (.const (.int .i64 0)) rfl rfl (hv.below b1) rfl 0 rfl (by omega) ?_⟩
  intro b' off' hc' hb'
  have hc1 : W1.cell? ⟨b', off', none⟩ = some (.int .u8 2) := by
    have := hc' 0 (.int .u8 2) rfl
    simpa using this
  clear hc'
  go_wp2_with (first | go_skip | (go_at_call 15; go_in) | (with_reducible refine stIg 22 ?_))
  refine ⟨idx sk22 rfl (.tmp 24) (.const (.int .i64 0)) rfl rfl (hv.below b1) rfl 0 rfl (by omega) ?_⟩
  intro b'' off'' hc' hb''
  have hc2 : W1.cell? ⟨b'', off'', none⟩ = some (.int .u8 2) := by
    have := hc' 0 (.int .u8 2) rfl
    simpa using this
  clear hc' hc1 hb' hb''
  go_wp2_with (with_reducible refine stAl 24 ?_)
  refine ⟨al rfl 24 rfl (z := .agg #[.int .i64 0, .int .i64 0, .int .i64 0, .int .i64 0, .slice none 0 0, .slice none 0 0, .slice none 0 0]) (by kernel_rfl) ?_⟩
  intro W2 z2 h2 b2
  simp only [Value.cells] at h2
  rw [z1] at h2 b2
  have HA2 := Lib.hid ((b2.block w.heap.size (by omega)).trans HA1.out)
  have bb2 : Below w.heap.size w W2 := b1.trans (b2.mono (by omega))
  clear hc2 HA1
  go_wp2_with (with_reducible refine stW 24 ?_)
  refine ⟨stRow rfl 24 (.tmp 4) (.tmp 28) rfl rfl h2 rfl (by kernel_rfl) rfl (by simp [Value.oneCell']) ?_⟩
  clear h2
  intro W3 z3 h3 g3
  obtain ⟨cQ, fQ⟩ := live h3
  have HQ3 := Lib.hid h3
  have HA3 := Lib.hid (keep g3 HA2.out (by omega))
  have bb3 : Below w.heap.size w W3 := bb2.grown g3 (by omega) (by simp)
  clear h3 HA2
  go_wp2_with (with_reducible refine stL 45 ?_)
  refine ⟨ldRow rfl 45 (.tmp 31) rfl rfl _ (hs.below hg bb3) Tryd.underlying45 rfl (by kernel_rfl) ?_⟩
  go_wp2_with (with_reducible refine stAl 45 ?_)
  have y3 : W3.heap.size = w.heap.size + 2 := by omega
  refine ⟨al rfl 45 rfl (z := .agg #[.bool false, .bool false, .bool false, .bool false, .bool false, .bool false]) (by kernel_rfl) ?_⟩
  intro W4 z4 h4 b4
  simp only [Value.cells] at h4
  rw [y3] at h4 b4
  have HA4 := Lib.hid ((b4.block w.heap.size (by omega)).trans HA3.out)
  have HQ4 := Lib.hid ((b4.block (w.heap.size + 1) (by omega)).trans HQ3.out)
  have bb4 : Below w.heap.size w W4 := bb3.trans (b4.mono (by omega))
  clear cQ fQ HA3 HQ3
  go_wp2_with (with_reducible refine stW 45 ?_)
  refine ⟨stRow rfl 45 (.tmp 5) (.tmp 32) rfl rfl h4 rfl (by kernel_rfl) rfl (by simp [Value.oneCell']) ?_⟩
  clear h4
  intro W5 z5 h5 g5
  have HA5 := Lib.hid (keep g5 HA4.out (by omega))
  have HQ5 := Lib.hid (keep g5 HQ4.out (by omega))
  have bb5 : Below w.heap.size w W5 := bb4.grown g5 (by omega) (by simp; omega)
  have HF5 := Lib.hid h5
  clear h5 HA4 HQ4
  go_wp2_with (with_reducible refine stS ?_)
  have hv5 : View W5 (.slice p m c) m 1 (bv (2 :: l)) := hv.below bb5
  refine ⟨slcL sk22 rfl (.tmp 33) (.const (.int .i64 1)) rfl (y := p) (n := m) (c := c) rfl hv5 1 rfl (by omega) ?_⟩
  intro p2 v2 o2
  go_wp2_with (with_reducible refine stB 53 ?_)
  have y5 : W5.heap.size = w.heap.size + 3 := by omega
  refine ⟨bx rfl 53 (.tmp 35) rfl (v := .agg #[.slice p2 (m - 1) (c - 1), .bool false]) rfl ?_⟩
  intro W6 z6 h6 b6
  simp only [Value.cells] at h6
  rw [y5] at h6 b6 z6
  have HA6 := Lib.hid ((b6.block w.heap.size (by omega)).trans HA5.out)
  have HQ6 := Lib.hid ((b6.block (w.heap.size + 1) (by omega)).trans HQ5.out)
  have HF6 := Lib.hid ((b6.block (w.heap.size + 2) (by omega)).trans HF5.out)
  have bb6 : Below w.heap.size w W6 := bb5.trans (b6.mono (by omega))
  have hl := hm'.out
  have hr6 : RdIs W6 (w.heap.size + 3) w.heap.size p2 (m - 1) (c - 1) false l :=
    ⟨h6, (by simpa [bv] using v2.below (by rw [y5]; exact b6)), by omega, fun k hk => hv.lt k (o2 k hk), by omega⟩
  have y6 : w.heap.size + 4 ≤ W6.heap.size := by omega
  clear v2 h6 HA5 HQ5 HF5 hv5 b6 z1 z2 z3 z4 z5 y3 b1 b2 b4 g3 g5 bb2 bb3 bb4 bb5 hl
  obtain ⟨cF, fF⟩ := live HF6.out
  go_wp2_with (first | (go_at_call 19; with_reducible refine stK ?_) | (go_at_call 20; with_reducible refine stK ?_) | (go_at_call 21; with_reducible refine stK ?_))
  refine ⟨(copied_spec (w.heap.size + 3) w.heap.size _ _ _ _ _ 32 _ hr6 (by omega)).mono ?_⟩
  rintro e W7 ⟨q7, d7, p7, m7, c7, rfl, hr7, hg7, ho7⟩
  have HA7 := Lib.hid (keep hg7 HA6.out (by omega))
  have HQ7 := Lib.hid (keep hg7 HQ6.out (by omega))
  have HF7 := Lib.hid (keep hg7 HF6.out (by omega))
  have bb7 : Below w.heap.size w W7 := bb6.grown hg7 (by omega) (by simp)
  have y7 : w.heap.size + 4 ≤ W7.heap.size := by have := hg7.size; omega
  have vK7 := (VA.own ho7).low y6
  clear cF fF
  obtain ⟨cF, fF⟩ := live HF7.out
  go_wp2_with (with_reducible refine stW 22 ?_)
  refine ⟨stCell rfl 22 (.tmp 51) (.tmp 50) rfl rfl HQ7.out (v := .slice q7 (gives false (l) 32).length d7) rfl rfl (by kernel_rfl) (by simp) ?_⟩
  intro W8 z8 h8 g8
  have HQ8 : Hid (W8.heap[w.heap.size + 1]? = some (.cells #[.int .i64 2, .int .i64 0, .int .i64 0, .int .i64 0, .slice q7 (gives false (l) 32).length d7, .slice none 0 0, .slice none 0 0] 24 (0, 0))) := h8
  have HA8 := Lib.hid (keep g8 HA7.out (by omega))
  have HF8 := Lib.hid (keep g8 HF7.out (by omega))
  have rdne7 : ∀ k, (Value.slice p7 m7 c7).ownBlock = some k → some k ≠ some (w.heap.size + 1) := fun k hk => by have := hr7.2.2.2.1 k hk; simp; omega
  have hr8 : RdIs W8 (w.heap.size + 3) w.heap.size _ _ _ _ _ := ⟨keep g8 hr7.1 (by omega), hr7.2.1.grown g8 (fun k hk => rdne7 k hk), hr7.2.2⟩
  have bb8 : Below w.heap.size w W8 := bb7.grown g8 (by omega) (by simp)
  have y8 : w.heap.size + 4 ≤ W8.heap.size := by omega
  have vK8 := vK7.grown g8 (by omega)
  clear cF fF h8
  obtain ⟨cF, fF⟩ := live HF8.out
  go_wp2_with (first | (go_at_call 19; with_reducible refine stK ?_) | (go_at_call 20; with_reducible refine stK ?_) | (go_at_call 21; with_reducible refine stK ?_))
  refine ⟨(number_spec (w.heap.size + 3) w.heap.size _ _ _ _ _ 8 _ hr8 (by omega)).mono ?_⟩
  rintro e W9 ⟨p9, m9, c9, rfl, hr9, hg9⟩
  have HA9 := Lib.hid (keep hg9 HA8.out (by omega))
  have HQ9 := Lib.hid (keep hg9 HQ8.out (by omega))
  have HF9 := Lib.hid (keep hg9 HF8.out (by omega))
  have bb9 : Below w.heap.size w W9 := bb8.grown hg9 (by omega) (by simp)
  have y9 : w.heap.size + 4 ≤ W9.heap.size := by have := hg9.size; omega
  have vK9 := vK8.grown hg9 (by omega)
  clear cF fF
  obtain ⟨cF, fF⟩ := live HF9.out
  go_wp2_with (with_reducible refine stW 3 ?_)
  refine ⟨stCell rfl 3 (.tmp 62) (.tmp 61) rfl rfl HQ9.out (v := .int .i64 (wrap64 (numLE (gives (shortBy false (l) 32) ((leftBy false (l) 32)) 8)))) rfl rfl (by kernel_rfl) (by simp) ?_⟩
  intro W10 z10 h10 g10
  have HQ10 : Hid (W10.heap[w.heap.size + 1]? = some (.cells #[.int .i64 2, .int .i64 (wrap64 (numLE (gives (shortBy false (l) 32) ((leftBy false (l) 32)) 8))), .int .i64 0, .int .i64 0, .slice q7 (gives false (l) 32).length d7, .slice none 0 0, .slice none 0 0] 24 (0, 0))) := h10
  have HA10 := Lib.hid (keep g10 HA9.out (by omega))
  have HF10 := Lib.hid (keep g10 HF9.out (by omega))
  have rdne9 : ∀ k, (Value.slice p9 m9 c9).ownBlock = some k → some k ≠ some (w.heap.size + 1) := fun k hk => by have := hr9.2.2.2.1 k hk; simp; omega
  have hr10 : RdIs W10 (w.heap.size + 3) w.heap.size _ _ _ _ _ := ⟨keep g10 hr9.1 (by omega), hr9.2.1.grown g10 (fun k hk => rdne9 k hk), hr9.2.2⟩
  have bb10 : Below w.heap.size w W10 := bb9.grown g10 (by omega) (by simp)
  have y10 : w.heap.size + 4 ≤ W10.heap.size := by omega
  have vK10 := vK9.grown g10 (by omega)
  clear cF fF h10
  obtain ⟨cF, fF⟩ := live HF10.out
  go_wp2_with (first | (go_at_call 19; with_reducible refine stK ?_) | (go_at_call 20; with_reducible refine stK ?_) | (go_at_call 21; with_reducible refine stK ?_))
  refine ⟨(done_spec (w.heap.size + 3) w.heap.size _ _ _ _ _ _ hr10).mono ?_⟩
  rintro e W ⟨rfl, rfl⟩
  obtain ⟨cQ, fQ⟩ := live HQ10.out
  rw [show (!(shortBy (shortBy false (l) 32) ((leftBy false (l) 32)) 8) && ((leftBy (shortBy false (l) 32) ((leftBy false (l) 32)) 8)).isEmpty) = decD2 l from rfl]
  cases hD : decD2 l with
  | false =>
    go_wp2_with (with_reducible refine stW 24 ?_)
    refine ⟨stRow rfl 24 (.tmp 2) (.tmp 78) rfl rfl HA10.out rfl (by kernel_rfl) rfl (by simp [Value.oneCell']) ?_⟩
    intro W11 z11 h11 g11
    obtain ⟨cA, fA⟩ := live h11
    clear h11
    have bb11 : Below w.heap.size w W11 := bb10.grown g11 (by omega) (by simp)
    go_wp2
    refine bodyPost_ret (v := .tuple #[.agg #[.int .i64 0, .int .i64 0, .int .i64 0, .int .i64 0, .slice none 0 0, .slice none 0 0, .slice none 0 0], .int .i64 200]) (by simp [results, Tryd.results12, go_sem, cA]) rfl (.inl ⟨hD, rfl, bb11⟩)
  | true =>
    go_wp2_with (with_reducible refine stW 24 ?_)
    refine ⟨stRow rfl 24 (.tmp 2) (.tmp 79) rfl rfl HA10.out (c' := #[.int .i64 2, .int .i64 (wrap64 (numLE (gives (shortBy false (l) 32) ((leftBy false (l) 32)) 8))), .int .i64 0, .int .i64 0, .slice q7 (gives false (l) 32).length d7, .slice none 0 0, .slice none 0 0]) rfl (by kernel_rfl) rfl (by simp [Value.oneCell']) ?_⟩
    intro W11 z11 h11 g11
    obtain ⟨cA, fA⟩ := live h11
    clear h11
    have bb11 : Below w.heap.size w W11 := bb10.grown g11 (by omega) (by simp)
    go_wp2
    refine bodyPost_ret (v := .tuple #[.agg #[.int .i64 2, .int .i64 (wrap64 (numLE (gives (shortBy false (l) 32) ((leftBy false (l) 32)) 8))), .int .i64 0, .int .i64 0, .slice q7 (gives false (l) 32).length d7, .slice none 0 0, .slice none 0 0], .int .i64 0]) (by simp [results, Tryd.results12, go_sem, cA]) rfl (.inr ⟨hD, _, _, _, _, _, _, _, _, _, rfl, bb11, ((vK10.grown g11 (by omega)).low (by omega)), (VA.nil _ _), (VA.nil _ _)⟩)

/-- whether the bytes behind the kind 3 are just its fields -/
def decD3 (l : List UInt8) : Bool := (!(shortBy false (l) 8) && ((leftBy false (l) 8)).isEmpty)

set_option maxHeartbeats 2000000 in
set_option maxRecDepth 100000 in
theorem dec_3 (p : Option Addr) (m c : Nat) (l : List UInt8) (w : World) (hv : View w (.slice p m c) m 1 (bv (3 :: l))) (hm : m = l.length + 1) (hmax : m ≤ 12000)
    (hg : 2 < w.heap.size) (hs : Cells w 2 18 [.bool false, .bool false, .bool false, .bool true, .bool false, .bool false]) :
    Calls Tryd.prog 12 #[.slice p m c] w fun e w' => (decD3 l = false ∧ e = .returned (.tuple #[.agg #[.int .i64 0, .int .i64 0, .int .i64 0, .int .i64 0, .slice none 0 0, .slice none 0 0, .slice none 0 0], .int .i64 200]) ∧ Below w.heap.size w w') ∨
      (decD3 l = true ∧ ∃ pk nk ck ph nh ch pb nb cb, e = .returned (.tuple #[.agg #[.int .i64 3, .int .i64 (wrap64 (numLE (gives false (l) 8))), .int .i64 0, .int .i64 0, .slice pk nk ck, .slice ph nh ch, .slice pb nb cb], .int .i64 0]) ∧ Below w.heap.size w w' ∧
        VA w' (.slice pk nk ck) nk [] w.heap.size ∧ VA w' (.slice ph nh ch) nh [] w.heap.size ∧ VA w' (.slice pb nb cb) nb [] w.heap.size) := by
  have q0 : ((m : Int) == 0) = false := by simp; omega
  have q1 : decide ((12000 : Int) < (m : Int)) = false := by simp; omega
  have q2 : 1 ≤ m := by omega
  have hcap : m ≤ c := by
    rcases hv.2 with ⟨he, h4, h5⟩ | ⟨b, off, cap, he, h4, h5, _⟩
    · simp [bv] at h5
    · simp only [Value.slice.injEq] at he; omega
  have hm' := Lib.hid hm
  clear hm
  go_enter Tryd.func12, Tryd.ntmps12
  go_wp2_with (with_reducible refine stAl 24 ?_)
  refine ⟨al rfl 24 rfl (z := .agg #[.int .i64 0, .int .i64 0, .int .i64 0, .int .i64 0, .slice none 0 0, .slice none 0 0, .slice none 0 0]) (by kernel_rfl) ?_⟩
  intro W1 z1 h1 b1
  simp only [Value.cells] at h1
  have HA1 := Lib.hid h1
  clear h1
  go_wp2_with (first | go_skip | (with_reducible refine stIg 22 ?_))
  refine ⟨idx sk22 rfl (.tmp 16) (.const (.int .i64 0)) rfl rfl (hv.below b1) rfl 0 rfl (by omega) ?_⟩
  intro b' off' hc' hb'
  have hc1 : W1.cell? ⟨b', off', none⟩ = some (.int .u8 3) := by
    have := hc' 0 (.int .u8 3) rfl
    simpa using this
  clear hc'
  go_wp2_with (first | go_skip | (go_at_call 15; go_in) | (with_reducible refine stIg 22 ?_))
  refine ⟨idx sk22 rfl (.tmp 24) (.const (.int .i64 0)) rfl rfl (hv.below b1) rfl 0 rfl (by omega) ?_⟩
  intro b'' off'' hc' hb''
  have hc2 : W1.cell? ⟨b'', off'', none⟩ = some (.int .u8 3) := by
    have := hc' 0 (.int .u8 3) rfl
    simpa using this
  clear hc' hc1 hb' hb''
  go_wp2_with (with_reducible refine stAl 24 ?_)
  refine ⟨al rfl 24 rfl (z := .agg #[.int .i64 0, .int .i64 0, .int .i64 0, .int .i64 0, .slice none 0 0, .slice none 0 0, .slice none 0 0]) (by kernel_rfl) ?_⟩
  intro W2 z2 h2 b2
  simp only [Value.cells] at h2
  rw [z1] at h2 b2
  have HA2 := Lib.hid ((b2.block w.heap.size (by omega)).trans HA1.out)
  have bb2 : Below w.heap.size w W2 := b1.trans (b2.mono (by omega))
  clear hc2 HA1
  go_wp2_with (with_reducible refine stW 24 ?_)
  refine ⟨stRow rfl 24 (.tmp 4) (.tmp 28) rfl rfl h2 rfl (by kernel_rfl) rfl (by simp [Value.oneCell']) ?_⟩
  clear h2
  intro W3 z3 h3 g3
  obtain ⟨cQ, fQ⟩ := live h3
  have HQ3 := Lib.hid h3
  have HA3 := Lib.hid (keep g3 HA2.out (by omega))
  have bb3 : Below w.heap.size w W3 := bb2.grown g3 (by omega) (by simp)
  clear h3 HA2
  go_wp2_with (with_reducible refine stL 45 ?_)
  refine ⟨ldRow rfl 45 (.tmp 31) rfl rfl _ (hs.below hg bb3) Tryd.underlying45 rfl (by kernel_rfl) ?_⟩
  go_wp2_with (with_reducible refine stAl 45 ?_)
  have y3 : W3.heap.size = w.heap.size + 2 := by omega
  refine ⟨al rfl 45 rfl (z := .agg #[.bool false, .bool false, .bool false, .bool false, .bool false, .bool false]) (by kernel_rfl) ?_⟩
  intro W4 z4 h4 b4
  simp only [Value.cells] at h4
  rw [y3] at h4 b4
  have HA4 := Lib.hid ((b4.block w.heap.size (by omega)).trans HA3.out)
  have HQ4 := Lib.hid ((b4.block (w.heap.size + 1) (by omega)).trans HQ3.out)
  have bb4 : Below w.heap.size w W4 := bb3.trans (b4.mono (by omega))
  clear cQ fQ HA3 HQ3
  go_wp2_with (with_reducible refine stW 45 ?_)
  refine ⟨stRow rfl 45 (.tmp 5) (.tmp 32) rfl rfl h4 rfl (by kernel_rfl) rfl (by simp [Value.oneCell']) ?_⟩
  clear h4
  intro W5 z5 h5 g5
  have HA5 := Lib.hid (keep g5 HA4.out (by omega))
  have HQ5 := Lib.hid (keep g5 HQ4.out (by omega))
  have bb5 : Below w.heap.size w W5 := bb4.grown g5 (by omega) (by simp; omega)
  have HF5 := Lib.hid h5
  clear h5 HA4 HQ4
  go_wp2_with (with_reducible refine stS ?_)
  have hv5 : View W5 (.slice p m c) m 1 (bv (3 :: l)) := hv.below bb5
  refine ⟨slcL sk22 rfl (.tmp 33) (.const (.int .i64 1)) rfl (y := p) (n := m) (c := c) rfl hv5 1 rfl (by omega) ?_⟩
  intro p2 v2 o2
  go_wp2_with (with_reducible refine stB 53 ?_)
  have y5 : W5.heap.size = w.heap.size + 3 := by omega
  refine ⟨bx rfl 53 (.tmp 35) rfl (v := .agg #[.slice p2 (m - 1) (c - 1), .bool false]) rfl ?_⟩
  intro W6 z6 h6 b6
  simp only [Value.cells] at h6
  rw [y5] at h6 b6 z6
  have HA6 := Lib.hid ((b6.block w.heap.size (by omega)).trans HA5.out)
  have HQ6 := Lib.hid ((b6.block (w.heap.size + 1) (by omega)).trans HQ5.out)
  have HF6 := Lib.hid ((b6.block (w.heap.size + 2) (by omega)).trans HF5.out)
  have bb6 : Below w.heap.size w W6 := bb5.trans (b6.mono (by omega))
  have hl := hm'.out
  have hr6 : RdIs W6 (w.heap.size + 3) w.heap.size p2 (m - 1) (c - 1) false l :=
    ⟨h6, (by simpa [bv] using v2.below (by rw [y5]; exact b6)), by omega, fun k hk => hv.lt k (o2 k hk), by omega⟩
  have y6 : w.heap.size + 4 ≤ W6.heap.size := by omega
  clear v2 h6 HA5 HQ5 HF5 hv5 b6 z1 z2 z3 z4 z5 y3 b1 b2 b4 g3 g5 bb2 bb3 bb4 bb5 hl
  obtain ⟨cF, fF⟩ := live HF6.out
  go_wp2_with (first | (go_at_call 19; with_reducible refine stK ?_) | (go_at_call 20; with_reducible refine stK ?_) | (go_at_call 21; with_reducible refine stK ?_))
  refine ⟨(number_spec (w.heap.size + 3) w.heap.size _ _ _ _ _ 8 _ hr6 (by omega)).mono ?_⟩
  rintro e W7 ⟨p7, m7, c7, rfl, hr7, hg7⟩
  have HA7 := Lib.hid (keep hg7 HA6.out (by omega))
  have HQ7 := Lib.hid (keep hg7 HQ6.out (by omega))
  have HF7 := Lib.hid (keep hg7 HF6.out (by omega))
  have bb7 : Below w.heap.size w W7 := bb6.grown hg7 (by omega) (by simp)
  have y7 : w.heap.size + 4 ≤ W7.heap.size := by have := hg7.size; omega
  clear cF fF
  obtain ⟨cF, fF⟩ := live HF7.out
  go_wp2_with (with_reducible refine stW 3 ?_)
  refine ⟨stCell rfl 3 (.tmp 62) (.tmp 61) rfl rfl HQ7.out (v := .int .i64 (wrap64 (numLE (gives false (l) 8)))) rfl rfl (by kernel_rfl) (by simp) ?_⟩
  intro W8 z8 h8 g8
  have HQ8 : Hid (W8.heap[w.heap.size + 1]? = some (.cells #[.int .i64 3, .int .i64 (wrap64 (numLE (gives false (l) 8))), .int .i64 0, .int .i64 0, .slice none 0 0, .slice none 0 0, .slice none 0 0] 24 (0, 0))) := h8
  have HA8 := Lib.hid (keep g8 HA7.out (by omega))
  have HF8 := Lib.hid (keep g8 HF7.out (by omega))
  have rdne7 : ∀ k, (Value.slice p7 m7 c7).ownBlock = some k → some k ≠ some (w.heap.size + 1) := fun k hk => by have := hr7.2.2.2.1 k hk; simp; omega
  have hr8 : RdIs W8 (w.heap.size + 3) w.heap.size _ _ _ _ _ := ⟨keep g8 hr7.1 (by omega), hr7.2.1.grown g8 (fun k hk => rdne7 k hk), hr7.2.2⟩
  have bb8 : Below w.heap.size w W8 := bb7.grown g8 (by omega) (by simp)
  have y8 : w.heap.size + 4 ≤ W8.heap.size := by omega
  clear cF fF h8
  obtain ⟨cF, fF⟩ := live HF8.out
  go_wp2_with (first | (go_at_call 19; with_reducible refine stK ?_) | (go_at_call 20; with_reducible refine stK ?_) | (go_at_call 21; with_reducible refine stK ?_))
  refine ⟨(done_spec (w.heap.size + 3) w.heap.size _ _ _ _ _ _ hr8).mono ?_⟩
  rintro e W ⟨rfl, rfl⟩
  obtain ⟨cQ, fQ⟩ := live HQ8.out
  rw [show (!(shortBy false (l) 8) && ((leftBy false (l) 8)).isEmpty) = decD3 l from rfl]
  cases hD : decD3 l with
  | false =>
    go_wp2_with (with_reducible refine stW 24 ?_)
    refine ⟨stRow rfl 24 (.tmp 2) (.tmp 78) rfl rfl HA8.out rfl (by kernel_rfl) rfl (by simp [Value.oneCell']) ?_⟩
    intro W9 z9 h9 g9
    obtain ⟨cA, fA⟩ := live h9
    clear h9
    have bb9 : Below w.heap.size w W9 := bb8.grown g9 (by omega) (by simp)
    go_wp2
    refine bodyPost_ret (v := .tuple #[.agg #[.int .i64 0, .int .i64 0, .int .i64 0, .int .i64 0, .slice none 0 0, .slice none 0 0, .slice none 0 0], .int .i64 200]) (by simp [results, Tryd.results12, go_sem, cA]) rfl (.inl ⟨hD, rfl, bb9⟩)
  | true =>
    go_wp2_with (with_reducible refine stW 24 ?_)
    refine ⟨stRow rfl 24 (.tmp 2) (.tmp 79) rfl rfl HA8.out (c' := #[.int .i64 3, .int .i64 (wrap64 (numLE (gives false (l) 8))), .int .i64 0, .int .i64 0, .slice none 0 0, .slice none 0 0, .slice none 0 0]) rfl (by kernel_rfl) rfl (by simp [Value.oneCell']) ?_⟩
    intro W9 z9 h9 g9
    obtain ⟨cA, fA⟩ := live h9
    clear h9
    have bb9 : Below w.heap.size w W9 := bb8.grown g9 (by omega) (by simp)
    go_wp2
    refine bodyPost_ret (v := .tuple #[.agg #[.int .i64 3, .int .i64 (wrap64 (numLE (gives false (l) 8))), .int .i64 0, .int .i64 0, .slice none 0 0, .slice none 0 0, .slice none 0 0], .int .i64 0]) (by simp [results, Tryd.results12, go_sem, cA]) rfl (.inr ⟨hD, _, _, _, _, _, _, _, _, _, rfl, bb9, (VA.nil _ _), (VA.nil _ _), (VA.nil _ _)⟩)

/-- whether the bytes behind the kind 4 are just its fields -/
def decD4 (l : List UInt8) : Bool := (!(shortBy (shortBy false (l) 32) ((leftBy false (l) 32)) 8) && ((leftBy (shortBy false (l) 32) ((leftBy false (l) 32)) 8)).isEmpty)

set_option maxHeartbeats 2000000 in
set_option maxRecDepth 100000 in
theorem dec_4 (p : Option Addr) (m c : Nat) (l : List UInt8) (w : World) (hv : View w (.slice p m c) m 1 (bv (4 :: l))) (hm : m = l.length + 1) (hmax : m ≤ 12000)
    (hg : 2 < w.heap.size) (hs : Cells w 2 24 [.bool false, .bool true, .bool false, .bool true, .bool false, .bool false]) :
    Calls Tryd.prog 12 #[.slice p m c] w fun e w' => (decD4 l = false ∧ e = .returned (.tuple #[.agg #[.int .i64 0, .int .i64 0, .int .i64 0, .int .i64 0, .slice none 0 0, .slice none 0 0, .slice none 0 0], .int .i64 200]) ∧ Below w.heap.size w w') ∨
      (decD4 l = true ∧ ∃ pk nk ck ph nh ch pb nb cb, e = .returned (.tuple #[.agg #[.int .i64 4, .int .i64 (wrap64 (numLE (gives (shortBy false (l) 32) ((leftBy false (l) 32)) 8))), .int .i64 0, .int .i64 0, .slice pk nk ck, .slice ph nh ch, .slice pb nb cb], .int .i64 0]) ∧ Below w.heap.size w w' ∧
        VA w' (.slice pk nk ck) nk (gives false (l) 32) w.heap.size ∧ VA w' (.slice ph nh ch) nh [] w.heap.size ∧ VA w' (.slice pb nb cb) nb [] w.heap.size) := by
  have q0 : ((m : Int) == 0) = false := by simp; omega
  have q1 : decide ((12000 : Int) < (m : Int)) = false := by simp; omega
  have q2 : 1 ≤ m := by omega
  have hcap : m ≤ c := by
    rcases hv.2 with ⟨he, h4, h5⟩ | ⟨b, off, cap, he, h4, h5, _⟩
    · simp [bv] at h5
    · simp only [Value.slice.injEq] at he; omega
  have hm' := Lib.hid hm
  clear hm
  go_enter Tryd.func12, Tryd.ntmps12
  go_wp2_with (with_reducible refine stAl 24 ?_)
  refine ⟨al rfl 24 rfl (z := .agg #[.int .i64 0, .int .i64 0, .int .i64 0, .int .i64 0, .slice none 0 0, .slice none 0 0, .slice none 0 0]) (by kernel_rfl) ?_⟩
  intro W1 z1 h1 b1
  simp only [Value.cells] at h1
  have HA1 := Lib.hid h1
  clear h1
  go_wp2_with (first | go_skip | (with_reducible refine stIg 22 ?_))
  refine ⟨idx sk22 rfl (.tmp 16) (.const (.int .i64 0)) rfl rfl (hv.below b1) rfl 0 rfl (by omega) ?_⟩
  intro b' off' hc' hb'
  have hc1 : W1.cell? ⟨b', off', none⟩ = some (.int .u8 4) := by
    have := hc' 0 (.int .u8 4) rfl
    simpa using this
  clear hc'
  go_wp2_with (first | go_skip | (go_at_call 15; go_in) | (with_reducible refine stIg 22 ?_))
  refine ⟨idx sk22 rfl (.tmp 24) (.const (.int .i64 0)) rfl rfl (hv.below b1) rfl 0 rfl (by omega) ?_⟩
  intro b'' off'' hc' hb''
  have hc2 : W1.cell? ⟨b'', off'', none⟩ = some (.int .u8 4) := by
    have := hc' 0 (.int .u8 4) rfl
    simpa using this
  clear hc' hc1 hb' hb''
  go_wp2_with (with_reducible refine stAl 24 ?_)
  refine ⟨al rfl 24 rfl (z := .agg #[.int .i64 0, .int .i64 0, .int .i64 0, .int .i64 0, .slice none 0 0, .slice none 0 0, .slice none 0 0]) (by kernel_rfl) ?_⟩
  intro W2 z2 h2 b2
  simp only [Value.cells] at h2
  rw [z1] at h2 b2
  have HA2 := Lib.hid ((b2.block w.heap.size (by omega)).trans HA1.out)
  have bb2 : Below w.heap.size w W2 := b1.trans (b2.mono (by omega))
  clear hc2 HA1
  go_wp2_with (with_reducible refine stW 24 ?_)
  refine ⟨stRow rfl 24 (.tmp 4) (.tmp 28) rfl rfl h2 rfl (by kernel_rfl) rfl (by simp [Value.oneCell']) ?_⟩
  clear h2
  intro W3 z3 h3 g3
  obtain ⟨cQ, fQ⟩ := live h3
  have HQ3 := Lib.hid h3
  have HA3 := Lib.hid (keep g3 HA2.out (by omega))
  have bb3 : Below w.heap.size w W3 := bb2.grown g3 (by omega) (by simp)
  clear h3 HA2
  go_wp2_with (with_reducible refine stL 45 ?_)
  refine ⟨ldRow rfl 45 (.tmp 31) rfl rfl _ (hs.below hg bb3) Tryd.underlying45 rfl (by kernel_rfl) ?_⟩
  go_wp2_with (with_reducible refine stAl 45 ?_)
  have y3 : W3.heap.size = w.heap.size + 2 := by omega
  refine ⟨al rfl 45 rfl (z := .agg #[.bool false, .bool false, .bool false, .bool false, .bool false, .bool false]) (by kernel_rfl) ?_⟩
  intro W4 z4 h4 b4
  simp only [Value.cells] at h4
  rw [y3] at h4 b4
  have HA4 := Lib.hid ((b4.block w.heap.size (by omega)).trans HA3.out)
  have HQ4 := Lib.hid ((b4.block (w.heap.size + 1) (by omega)).trans HQ3.out)
  have bb4 : Below w.heap.size w W4 := bb3.trans (b4.mono (by omega))
  clear cQ fQ HA3 HQ3
  go_wp2_with (with_reducible refine stW 45 ?_)
  refine ⟨stRow rfl 45 (.tmp 5) (.tmp 32) rfl rfl h4 rfl (by kernel_rfl) rfl (by simp [Value.oneCell']) ?_⟩
  clear h4
  intro W5 z5 h5 g5
  have HA5 := Lib.hid (keep g5 HA4.out (by omega))
  have HQ5 := Lib.hid (keep g5 HQ4.out (by omega))
  have bb5 : Below w.heap.size w W5 := bb4.grown g5 (by omega) (by simp; omega)
  have HF5 := Lib.hid h5
  clear h5 HA4 HQ4
  go_wp2_with (with_reducible refine stS ?_)
  have hv5 : View W5 (.slice p m c) m 1 (bv (4 :: l)) := hv.below bb5
  refine ⟨slcL sk22 rfl (.tmp 33) (.const (.int .i64 1)) rfl (y := p) (n := m) (c := c) rfl hv5 1 rfl (by omega) ?_⟩
  intro p2 v2 o2
  go_wp2_with (with_reducible refine stB 53 ?_)
  have y5 : W5.heap.size = w.heap.size + 3 := by omega
  refine ⟨bx rfl 53 (.tmp 35) rfl (v := .agg #[.slice p2 (m - 1) (c - 1), .bool false]) rfl ?_⟩
  intro W6 z6 h6 b6
  simp only [Value.cells] at h6
  rw [y5] at h6 b6 z6
  have HA6 := Lib.hid ((b6.block w.heap.size (by omega)).trans HA5.out)
  have HQ6 := Lib.hid ((b6.block (w.heap.size + 1) (by omega)).trans HQ5.out)
  have HF6 := Lib.hid ((b6.block (w.heap.size + 2) (by omega)).trans HF5.out)
  have bb6 : Below w.heap.size w W6 := bb5.trans (b6.mono (by omega))
  have hl := hm'.out
  have hr6 : RdIs W6 (w.heap.size + 3) w.heap.size p2 (m - 1) (c - 1) false l :=
    ⟨h6, (by simpa [bv] using v2.below (by rw [y5]; exact b6)), by omega, fun k hk => hv.lt k (o2 k hk), by omega⟩
  have y6 : w.heap.size + 4 ≤ W6.heap.size := by omega
  clear v2 h6 HA5 HQ5 HF5 hv5 b6 z1 z2 z3 z4 z5 y3 b1 b2 b4 g3 g5 bb2 bb3 bb4 bb5 hl
  obtain ⟨cF, fF⟩ := live HF6.out
  go_wp2_with (first | (go_at_call 19; with_reducible refine stK ?_) | (go_at_call 20; with_reducible refine stK ?_) | (go_at_call 21; with_reducible refine stK ?_))
  refine ⟨(copied_spec (w.heap.size + 3) w.heap.size _ _ _ _ _ 32 _ hr6 (by omega)).mono ?_⟩
  rintro e W7 ⟨q7, d7, p7, m7, c7, rfl, hr7, hg7, ho7⟩
  have HA7 := Lib.hid (keep hg7 HA6.out (by omega))
  have HQ7 := Lib.hid (keep hg7 HQ6.out (by omega))
  have HF7 := Lib.hid (keep hg7 HF6.out (by omega))
  have bb7 : Below w.heap.size w W7 := bb6.grown hg7 (by omega) (by simp)
  have y7 : w.heap.size + 4 ≤ W7.heap.size := by have := hg7.size; omega
  have vK7 := (VA.own ho7).low y6
  clear cF fF
  obtain ⟨cF, fF⟩ := live HF7.out
  go_wp2_with (with_reducible refine stW 22 ?_)
  refine ⟨stCell rfl 22 (.tmp 51) (.tmp 50) rfl rfl HQ7.out (v := .slice q7 (gives false (l) 32).length d7) rfl rfl (by kernel_rfl) (by simp) ?_⟩
  intro W8 z8 h8 g8
  have HQ8 : Hid (W8.heap[w.heap.size + 1]? = some (.cells #[.int .i64 4, .int .i64 0, .int .i64 0, .int .i64 0, .slice q7 (gives false (l) 32).length d7, .slice none 0 0, .slice none 0 0] 24 (0, 0))) := h8
  have HA8 := Lib.hid (keep g8 HA7.out (by omega))
  have HF8 := Lib.hid (keep g8 HF7.out (by omega))
  have rdne7 : ∀ k, (Value.slice p7 m7 c7).ownBlock = some k → some k ≠ some (w.heap.size + 1) := fun k hk => by have := hr7.2.2.2.1 k hk; simp; omega
  have hr8 : RdIs W8 (w.heap.size + 3) w.heap.size _ _ _ _ _ := ⟨keep g8 hr7.1 (by omega), hr7.2.1.grown g8 (fun k hk => rdne7 k hk), hr7.2.2⟩
  have bb8 : Below w.heap.size w W8 := bb7.grown g8 (by omega) (by simp)
  have y8 : w.heap.size + 4 ≤ W8.heap.size := by omega
  have vK8 := vK7.grown g8 (by omega)
  clear cF fF h8
  obtain ⟨cF, fF⟩ := live HF8.out
  go_wp2_with (first | (go_at_call 19; with_reducible refine stK ?_) | (go_at_call 20; with_reducible refine stK ?_) | (go_at_call 21; with_reducible refine stK ?_))
  refine ⟨(number_spec (w.heap.size + 3) w.heap.size _ _ _ _ _ 8 _ hr8 (by omega)).mono ?_⟩
  rintro e W9 ⟨p9, m9, c9, rfl, hr9, hg9⟩
  have HA9 := Lib.hid (keep hg9 HA8.out (by omega))
  have HQ9 := Lib.hid (keep hg9 HQ8.out (by omega))
  have HF9 := Lib.hid (keep hg9 HF8.out (by omega))
  have bb9 : Below w.heap.size w W9 := bb8.grown hg9 (by omega) (by simp)
  have y9 : w.heap.size + 4 ≤ W9.heap.size := by have := hg9.size; omega
  have vK9 := vK8.grown hg9 (by omega)
  clear cF fF
  obtain ⟨cF, fF⟩ := live HF9.out
  go_wp2_with (with_reducible refine stW 3 ?_)
  refine ⟨stCell rfl 3 (.tmp 62) (.tmp 61) rfl rfl HQ9.out (v := .int .i64 (wrap64 (numLE (gives (shortBy false (l) 32) ((leftBy false (l) 32)) 8)))) rfl rfl (by kernel_rfl) (by simp) ?_⟩
  intro W10 z10 h10 g10
  have HQ10 : Hid (W10.heap[w.heap.size + 1]? = some (.cells #[.int .i64 4, .int .i64 (wrap64 (numLE (gives (shortBy false (l) 32) ((leftBy false (l) 32)) 8))), .int .i64 0, .int .i64 0, .slice q7 (gives false (l) 32).length d7, .slice none 0 0, .slice none 0 0] 24 (0, 0))) := h10
  have HA10 := Lib.hid (keep g10 HA9.out (by omega))
  have HF10 := Lib.hid (keep g10 HF9.out (by omega))
  have rdne9 : ∀ k, (Value.slice p9 m9 c9).ownBlock = some k → some k ≠ some (w.heap.size + 1) := fun k hk => by have := hr9.2.2.2.1 k hk; simp; omega
  have hr10 : RdIs W10 (w.heap.size + 3) w.heap.size _ _ _ _ _ := ⟨keep g10 hr9.1 (by omega), hr9.2.1.grown g10 (fun k hk => rdne9 k hk), hr9.2.2⟩
  have bb10 : Below w.heap.size w W10 := bb9.grown g10 (by omega) (by simp)
  have y10 : w.heap.size + 4 ≤ W10.heap.size := by omega
  have vK10 := vK9.grown g10 (by omega)
  clear cF fF h10
  obtain ⟨cF, fF⟩ := live HF10.out
  go_wp2_with (first | (go_at_call 19; with_reducible refine stK ?_) | (go_at_call 20; with_reducible refine stK ?_) | (go_at_call 21; with_reducible refine stK ?_))
  refine ⟨(done_spec (w.heap.size + 3) w.heap.size _ _ _ _ _ _ hr10).mono ?_⟩
  rintro e W ⟨rfl, rfl⟩
  obtain ⟨cQ, fQ⟩ := live HQ10.out
  rw [show (!(shortBy (shortBy false (l) 32) ((leftBy false (l) 32)) 8) && ((leftBy (shortBy false (l) 32) ((leftBy false (l) 32)) 8)).isEmpty) = decD4 l from rfl]
  cases hD : decD4 l with
  | false =>
    go_wp2_with (with_reducible refine stW 24 ?_)
    refine ⟨stRow rfl 24 (.tmp 2) (.tmp 78) rfl rfl HA10.out rfl (by kernel_rfl) rfl (by simp [Value.oneCell']) ?_⟩
    intro W11 z11 h11 g11
    obtain ⟨cA, fA⟩ := live h11
    clear h11
    have bb11 : Below w.heap.size w W11 := bb10.grown g11 (by omega) (by simp)
    go_wp2
    refine bodyPost_ret (v := .tuple #[.agg #[.int .i64 0, .int .i64 0, .int .i64 0, .int .i64 0, .slice none 0 0, .slice none 0 0, .slice none 0 0], .int .i64 200]) (by simp [results, Tryd.results12, go_sem, cA]) rfl (.inl ⟨hD, rfl, bb11⟩)
  | true =>
    go_wp2_with (with_reducible refine stW 24 ?_)
    refine ⟨stRow rfl 24 (.tmp 2) (.tmp 79) rfl rfl HA10.out (c' := #[.int .i64 4, .int .i64 (wrap64 (numLE (gives (shortBy false (l) 32) ((leftBy false (l) 32)) 8))), .int .i64 0, .int .i64 0, .slice q7 (gives false (l) 32).length d7, .slice none 0 0, .slice none 0 0]) rfl (by kernel_rfl) rfl (by simp [Value.oneCell']) ?_⟩
    intro W11 z11 h11 g11
    obtain ⟨cA, fA⟩ := live h11
    clear h11
    have bb11 : Below w.heap.size w W11 := bb10.grown g11 (by omega) (by simp)
    go_wp2
    refine bodyPost_ret (v := .tuple #[.agg #[.int .i64 4, .int .i64 (wrap64 (numLE (gives (shortBy false (l) 32) ((leftBy false (l) 32)) 8))), .int .i64 0, .int .i64 0, .slice q7 (gives false (l) 32).length d7, .slice none 0 0, .slice none 0 0], .int .i64 0]) (by simp [results, Tryd.results12, go_sem, cA]) rfl (.inr ⟨hD, _, _, _, _, _, _, _, _, _, rfl, bb11, ((vK10.grown g11 (by omega)).low (by omega)), (VA.nil _ _), (VA.nil _ _)⟩)

/-- whether the bytes behind the kind 5 are just its fields -/
def decD5 (l : List UInt8) : Bool := (!(shortBy (shortBy (shortBy false (l) 32) ((leftBy false (l) 32)) 32) ((leftBy (shortBy false (l) 32) ((leftBy false (l) 32)) 32)) 8) && ((leftBy (shortBy (shortBy false (l) 32) ((leftBy false (l) 32)) 32) ((leftBy (shortBy false (l) 32) ((leftBy false (l) 32)) 32)) 8)).isEmpty)

set_option maxHeartbeats 2000000 in
set_option maxRecDepth 100000 in
theorem dec_5 (p : Option Addr) (m c : Nat) (l : List UInt8) (w : World) (hv : View w (.slice p m c) m 1 (bv (5 :: l))) (hm : m = l.length + 1) (hmax : m ≤ 12000)
    (hg : 2 < w.heap.size) (hs : Cells w 2 30 [.bool false, .bool true, .bool true, .bool true, .bool false, .bool false]) :
    Calls Tryd.prog 12 #[.slice p m c] w fun e w' => (decD5 l = false ∧ e = .returned (.tuple #[.agg #[.int .i64 0, .int .i64 0, .int .i64 0, .int .i64 0, .slice none 0 0, .slice none 0 0, .slice none 0 0], .int .i64 200]) ∧ Below w.heap.size w w') ∨
      (decD5 l = true ∧ ∃ pk nk ck ph nh ch pb nb cb, e = .returned (.tuple #[.agg #[.int .i64 5, .int .i64 (wrap64 (numLE (gives (shortBy (shortBy false (l) 32) ((leftBy false (l) 32)) 32) ((leftBy (shortBy false (l) 32) ((leftBy false (l) 32)) 32)) 8))), .int .i64 0, .int .i64 0, .slice pk nk ck, .slice ph nh ch, .slice pb nb cb], .int .i64 0]) ∧ Below w.heap.size w w' ∧
        VA w' (.slice pk nk ck) nk (gives false (l) 32) w.heap.size ∧ VA w' (.slice ph nh ch) nh (gives (shortBy false (l) 32) ((leftBy false (l) 32)) 32) w.heap.size ∧ VA w' (.slice pb nb cb) nb [] w.heap.size) := by
  have q0 : ((m : Int) == 0) = false := by simp; omega
  have q1 : decide ((12000 : Int) < (m : Int)) = false := by simp; omega
  have q2 : 1 ≤ m := by omega
  have hcap : m ≤ c := by
    rcases hv.2 with ⟨he, h4, h5⟩ | ⟨b, off, cap, he, h4, h5, _⟩
    · simp [bv] at h5
    · simp only [Value.slice.injEq] at he; omega
  have hm' := Lib.hid hm
  clear hm
  go_enter Tryd.func12, Tryd.ntmps12
  go_wp2_with (with_reducible refine stAl 24 ?_)
  refine ⟨al rfl 24 rfl (z := .agg #[.int .i64 0, .int .i64 0, .int .i64 0, .int .i64 0, .slice none 0 0, .slice none 0 0, .slice none 0 0]) (by kernel_rfl) ?_⟩
  intro W1 z1 h1 b1
  simp only [Value.cells] at h1
  have HA1 := Lib.hid h1
  clear h1
  go_wp2_with (first | go_skip | (with_reducible refine stIg 22 ?_))
  refine ⟨idx sk22 rfl (.tmp 16) (.const (.int .i64 0)) rfl rfl (hv.below b1) rfl 0 rfl (by omega) ?_⟩
  intro b' off' hc' hb'
  have hc1 : W1.cell? ⟨b', off', none⟩ = some (.int .u8 5) := by
    have := hc' 0 (.int .u8 5) rfl
    simpa using this
  clear hc'
  go_wp2_with (first | go_skip | (go_at_call 15; go_in) | (with_reducible refine stIg 22 ?_))
  refine ⟨idx sk22 rfl (.tmp 24) (.const (.int .i64 0)) rfl rfl (hv.below b1) rfl 0 rfl (by omega) ?_⟩
  intro b'' off'' hc' hb''
  have hc2 : W1.cell? ⟨b'', off'', none⟩ = some (.int .u8 5) := by
    have := hc' 0 (.int .u8 5) rfl
    simpa using this
  clear hc' hc1 hb' hb''
  go_wp2_with (with_reducible refine stAl 24 ?_)
  refine ⟨al rfl 24 rfl (z := .agg #[.int .i64 0, .int .i64 0, .int .i64 0, .int .i64 0, .slice none 0 0, .slice none 0 0, .slice none 0 0]) (by kernel_rfl) ?_⟩
  intro W2 z2 h2 b2
  simp only [Value.cells] at h2
  rw [z1] at h2 b2
  have HA2 := Lib.hid ((b2.block w.heap.size (by omega)).trans HA1.out)
  have bb2 : Below w.heap.size w W2 := b1.trans (b2.mono (by omega))
  clear hc2 HA1
  go_wp2_with (with_reducible refine stW 24 ?_)
  refine ⟨stRow rfl 24 (.tmp 4) (.tmp 28) rfl rfl h2 rfl (by kernel_rfl) rfl (by simp [Value.oneCell']) ?_⟩
  clear h2
  intro W3 z3 h3 g3
  obtain ⟨cQ, fQ⟩ := live h3
  have HQ3 := Lib.hid h3
  have HA3 := Lib.hid (keep g3 HA2.out (by omega))
  have bb3 : Below w.heap.size w W3 := bb2.grown g3 (by omega) (by simp)
  clear h3 HA2
  go_wp2_with (with_reducible refine stL 45 ?_)
  refine ⟨ldRow rfl 45 (.tmp 31) rfl rfl _ (hs.below hg bb3) Tryd.underlying45 rfl (by kernel_rfl) ?_⟩
  go_wp2_with (with_reducible refine stAl 45 ?_)
  have y3 : W3.heap.size = w.heap.size + 2 := by omega
  refine ⟨al rfl 45 rfl (z := .agg #[.bool false, .bool false, .bool false, .bool false, .bool false, .bool false]) (by kernel_rfl) ?_⟩
  intro W4 z4 h4 b4
  simp only [Value.cells] at h4
  rw [y3] at h4 b4
  have HA4 := Lib.hid ((b4.block w.heap.size (by omega)).trans HA3.out)
  have HQ4 := Lib.hid ((b4.block (w.heap.size + 1) (by omega)).trans HQ3.out)
  have bb4 : Below w.heap.size w W4 := bb3.trans (b4.mono (by omega))
  clear cQ fQ HA3 HQ3
  go_wp2_with (with_reducible refine stW 45 ?_)
  refine ⟨stRow rfl 45 (.tmp 5) (.tmp 32) rfl rfl h4 rfl (by kernel_rfl) rfl (by simp [Value.oneCell']) ?_⟩
  clear h4
  intro W5 z5 h5 g5
  have HA5 := Lib.hid (keep g5 HA4.out (by omega))
  have HQ5 := Lib.hid (keep g5 HQ4.out (by omega))
  have bb5 : Below w.heap.size w W5 := bb4.grown g5 (by omega) (by simp; omega)
  have HF5 := Lib.hid h5
  clear h5 HA4 HQ4
  go_wp2_with (with_reducible refine stS ?_)
  have hv5 : View W5 (.slice p m c) m 1 (bv (5 :: l)) := hv.below bb5
  refine ⟨slcL sk22 rfl (.tmp 33) (.const (.int .i64 1)) rfl (y := p) (n := m) (c := c) rfl hv5 1 rfl (by omega) ?_⟩
  intro p2 v2 o2
  go_wp2_with (with_reducible refine stB 53 ?_)
  have y5 : W5.heap.size = w.heap.size + 3 := by omega
  refine ⟨bx rfl 53 (.tmp 35) rfl (v := .agg #[.slice p2 (m - 1) (c - 1), .bool false]) rfl ?_⟩
  intro W6 z6 h6 b6
  simp only [Value.cells] at h6
  rw [y5] at h6 b6 z6
  have HA6 := Lib.hid ((b6.block w.heap.size (by omega)).trans HA5.out)
  have HQ6 := Lib.hid ((b6.block (w.heap.size + 1) (by omega)).trans HQ5.out)
  have HF6 := Lib.hid ((b6.block (w.heap.size + 2) (by omega)).trans HF5.out)
  have bb6 : Below w.heap.size w W6 := bb5.trans (b6.mono (by omega))
  have hl := hm'.out
  have hr6 : RdIs W6 (w.heap.size + 3) w.heap.size p2 (m - 1) (c - 1) false l :=
    ⟨h6, (by simpa [bv] using v2.below (by rw [y5]; exact b6)), by omega, fun k hk => hv.lt k (o2 k hk), by omega⟩
  have y6 : w.heap.size + 4 ≤ W6.heap.size := by omega
  clear v2 h6 HA5 HQ5 HF5 hv5 b6 z1 z2 z3 z4 z5 y3 b1 b2 b4 g3 g5 bb2 bb3 bb4 bb5 hl
  obtain ⟨cF, fF⟩ := live HF6.out
  go_wp2_with (first | (go_at_call 19; with_reducible refine stK ?_) | (go_at_call 20; with_reducible refine stK ?_) | (go_at_call 21; with_reducible refine stK ?_))
  refine ⟨(copied_spec (w.heap.size + 3) w.heap.size _ _ _ _ _ 32 _ hr6 (by omega)).mono ?_⟩
  rintro e W7 ⟨q7, d7, p7, m7, c7, rfl, hr7, hg7, ho7⟩
  have HA7 := Lib.hid (keep hg7 HA6.out (by omega))
  have HQ7 := Lib.hid (keep hg7 HQ6.out (by omega))
  have HF7 := Lib.hid (keep hg7 HF6.out (by omega))
  have bb7 : Below w.heap.size w W7 := bb6.grown hg7 (by omega) (by simp)
  have y7 : w.heap.size + 4 ≤ W7.heap.size := by have := hg7.size; omega
  have vK7 := (VA.own ho7).low y6
  clear cF fF
  obtain ⟨cF, fF⟩ := live HF7.out
  go_wp2_with (with_reducible refine stW 22 ?_)
  refine ⟨stCell rfl 22 (.tmp 51) (.tmp 50) rfl rfl HQ7.out (v := .slice q7 (gives false (l) 32).length d7) rfl rfl (by kernel_rfl) (by simp) ?_⟩
  intro W8 z8 h8 g8
  have HQ8 : Hid (W8.heap[w.heap.size + 1]? = some (.cells #[.int .i64 5, .int .i64 0, .int .i64 0, .int .i64 0, .slice q7 (gives false (l) 32).length d7, .slice none 0 0, .slice none 0 0] 24 (0, 0))) := h8
  have HA8 := Lib.hid (keep g8 HA7.out (by omega))
  have HF8 := Lib.hid (keep g8 HF7.out (by omega))
  have rdne7 : ∀ k, (Value.slice p7 m7 c7).ownBlock = some k → some k ≠ some (w.heap.size + 1) := fun k hk => by have := hr7.2.2.2.1 k hk; simp; omega
  have hr8 : RdIs W8 (w.heap.size + 3) w.heap.size _ _ _ _ _ := ⟨keep g8 hr7.1 (by omega), hr7.2.1.grown g8 (fun k hk => rdne7 k hk), hr7.2.2⟩
  have bb8 : Below w.heap.size w W8 := bb7.grown g8 (by omega) (by simp)
  have y8 : w.heap.size + 4 ≤ W8.heap.size := by omega
  have vK8 := vK7.grown g8 (by omega)
  clear cF fF h8
  obtain ⟨cF, fF⟩ := live HF8.out
  go_wp2_with (first | (go_at_call 19; with_reducible refine stK ?_) | (go_at_call 20; with_reducible refine stK ?_) | (go_at_call 21; with_reducible refine stK ?_))
  refine ⟨(copied_spec (w.heap.size + 3) w.heap.size _ _ _ _ _ 32 _ hr8 (by have := hr8.2.2.1; have := leftBy_le false (l) 32; have := hm'.out; omega)).mono ?_⟩
  rintro e W9 ⟨q9, d9, p9, m9, c9, rfl, hr9, hg9, ho9⟩
  have HA9 := Lib.hid (keep hg9 HA8.out (by omega))
  have HQ9 := Lib.hid (keep hg9 HQ8.out (by omega))
  have HF9 := Lib.hid (keep hg9 HF8.out (by omega))
  have bb9 : Below w.heap.size w W9 := bb8.grown hg9 (by omega) (by simp)
  have y9 : w.heap.size + 4 ≤ W9.heap.size := by have := hg9.size; omega
  have vK9 := vK8.grown hg9 (by omega)
  have vH9 := (VA.own ho9).low y8
  clear cF fF
  obtain ⟨cF, fF⟩ := live HF9.out
  go_wp2_with (with_reducible refine stW 22 ?_)
  refine ⟨stCell rfl 22 (.tmp 56) (.tmp 55) rfl rfl HQ9.out (v := .slice q9 (gives (shortBy false (l) 32) ((leftBy false (l) 32)) 32).length d9) rfl rfl (by kernel_rfl) (by simp) ?_⟩
  intro W10 z10 h10 g10
  have HQ10 : Hid (W10.heap[w.heap.size + 1]? = some (.cells #[.int .i64 5, .int .i64 0, .int .i64 0, .int .i64 0, .slice q7 (gives false (l) 32).length d7, .slice q9 (gives (shortBy false (l) 32) ((leftBy false (l) 32)) 32).length d9, .slice none 0 0] 24 (0, 0))) := h10
  have HA10 := Lib.hid (keep g10 HA9.out (by omega))
  have HF10 := Lib.hid (keep g10 HF9.out (by omega))
  have rdne9 : ∀ k, (Value.slice p9 m9 c9).ownBlock = some k → some k ≠ some (w.heap.size + 1) := fun k hk => by have := hr9.2.2.2.1 k hk; simp; omega
  have hr10 : RdIs W10 (w.heap.size + 3) w.heap.size _ _ _ _ _ := ⟨keep g10 hr9.1 (by omega), hr9.2.1.grown g10 (fun k hk => rdne9 k hk), hr9.2.2⟩
  have bb10 : Below w.heap.size w W10 := bb9.grown g10 (by omega) (by simp)
  have y10 : w.heap.size + 4 ≤ W10.heap.size := by omega
  have vK10 := vK9.grown g10 (by omega)
  have vH10 := vH9.grown g10 (by omega)
  clear cF fF h10
  obtain ⟨cF, fF⟩ := live HF10.out
  go_wp2_with (first | (go_at_call 19; with_reducible refine stK ?_) | (go_at_call 20; with_reducible refine stK ?_) | (go_at_call 21; with_reducible refine stK ?_))
  refine ⟨(number_spec (w.heap.size + 3) w.heap.size _ _ _ _ _ 8 _ hr10 (by omega)).mono ?_⟩
  rintro e W11 ⟨p11, m11, c11, rfl, hr11, hg11⟩
  have HA11 := Lib.hid (keep hg11 HA10.out (by omega))
  have HQ11 := Lib.hid (keep hg11 HQ10.out (by omega))
  have HF11 := Lib.hid (keep hg11 HF10.out (by omega))
  have bb11 : Below w.heap.size w W11 := bb10.grown hg11 (by omega) (by simp)
  have y11 : w.heap.size + 4 ≤ W11.heap.size := by have := hg11.size; omega
  have vK11 := vK10.grown hg11 (by omega)
  have vH11 := vH10.grown hg11 (by omega)
  clear cF fF
  obtain ⟨cF, fF⟩ := live HF11.out
  go_wp2_with (with_reducible refine stW 3 ?_)
  refine ⟨stCell rfl 3 (.tmp 62) (.tmp 61) rfl rfl HQ11.out (v := .int .i64 (wrap64 (numLE (gives (shortBy (shortBy false (l) 32) ((leftBy false (l) 32)) 32) ((leftBy (shortBy false (l) 32) ((leftBy false (l) 32)) 32)) 8)))) rfl rfl (by kernel_rfl) (by simp) ?_⟩
  intro W12 z12 h12 g12
  have HQ12 : Hid (W12.heap[w.heap.size + 1]? = some (.cells #[.int .i64 5, .int .i64 (wrap64 (numLE (gives (shortBy (shortBy false (l) 32) ((leftBy false (l) 32)) 32) ((leftBy (shortBy false (l) 32) ((leftBy false (l) 32)) 32)) 8))), .int .i64 0, .int .i64 0, .slice q7 (gives false (l) 32).length d7, .slice q9 (gives (shortBy false (l) 32) ((leftBy false (l) 32)) 32).length d9, .slice none 0 0] 24 (0, 0))) := h12
  have HA12 := Lib.hid (keep g12 HA11.out (by omega))
  have HF12 := Lib.hid (keep g12 HF11.out (by omega))
  have rdne11 : ∀ k, (Value.slice p11 m11 c11).ownBlock = some k → some k ≠ some (w.heap.size + 1) := fun k hk => by have := hr11.2.2.2.1 k hk; simp; omega
  have hr12 : RdIs W12 (w.heap.size + 3) w.heap.size _ _ _ _ _ := ⟨keep g12 hr11.1 (by omega), hr11.2.1.grown g12 (fun k hk => rdne11 k hk), hr11.2.2⟩
  have bb12 : Below w.heap.size w W12 := bb11.grown g12 (by omega) (by simp)
  have y12 : w.heap.size + 4 ≤ W12.heap.size := by omega
  have vK12 := vK11.grown g12 (by omega)
  have vH12 := vH11.grown g12 (by omega)
  clear cF fF h12
  obtain ⟨cF, fF⟩ := live HF12.out
  go_wp2_with (first | (go_at_call 19; with_reducible refine stK ?_) | (go_at_call 20; with_reducible refine stK ?_) | (go_at_call 21; with_reducible refine stK ?_))
  refine ⟨(done_spec (w.heap.size + 3) w.heap.size _ _ _ _ _ _ hr12).mono ?_⟩
  rintro e W ⟨rfl, rfl⟩
  obtain ⟨cQ, fQ⟩ := live HQ12.out
  rw [show (!(shortBy (shortBy (shortBy false (l) 32) ((leftBy false (l) 32)) 32) ((leftBy (shortBy false (l) 32) ((leftBy false (l) 32)) 32)) 8) && ((leftBy (shortBy (shortBy false (l) 32) ((leftBy false (l) 32)) 32) ((leftBy (shortBy false (l) 32) ((leftBy false (l) 32)) 32)) 8)).isEmpty) = decD5 l from rfl]
  cases hD : decD5 l with
  | false =>
    go_wp2_with (with_reducible refine stW 24 ?_)
    refine ⟨stRow rfl 24 (.tmp 2) (.tmp 78) rfl rfl HA12.out rfl (by kernel_rfl) rfl (by simp [Value.oneCell']) ?_⟩
    intro W13 z13 h13 g13
    obtain ⟨cA, fA⟩ := live h13
    clear h13
    have bb13 : Below w.heap.size w W13 := bb12.grown g13 (by omega) (by simp)
    go_wp2
    refine bodyPost_ret (v := .tuple #[.agg #[.int .i64 0, .int .i64 0, .int .i64 0, .int .i64 0, .slice none 0 0, .slice none 0 0, .slice none 0 0], .int .i64 200]) (by simp [results, Tryd.results12, go_sem, cA]) rfl (.inl ⟨hD, rfl, bb13⟩)
  | true =>
    go_wp2_with (with_reducible refine stW 24 ?_)
    refine ⟨stRow rfl 24 (.tmp 2) (.tmp 79) rfl rfl HA12.out (c' := #[.int .i64 5, .int .i64 (wrap64 (numLE (gives (shortBy (shortBy false (l) 32) ((leftBy false (l) 32)) 32) ((leftBy (shortBy false (l) 32) ((leftBy false (l) 32)) 32)) 8))), .int .i64 0, .int .i64 0, .slice q7 (gives false (l) 32).length d7, .slice q9 (gives (shortBy false (l) 32) ((leftBy false (l) 32)) 32).length d9, .slice none 0 0]) rfl (by kernel_rfl) rfl (by simp [Value.oneCell']) ?_⟩
    intro W13 z13 h13 g13
    obtain ⟨cA, fA⟩ := live h13
    clear h13
    have bb13 : Below w.heap.size w W13 := bb12.grown g13 (by omega) (by simp)
    go_wp2
    refine bodyPost_ret (v := .tuple #[.agg #[.int .i64 5, .int .i64 (wrap64 (numLE (gives (shortBy (shortBy false (l) 32) ((leftBy false (l) 32)) 32) ((leftBy (shortBy false (l) 32) ((leftBy false (l) 32)) 32)) 8))), .int .i64 0, .int .i64 0, .slice q7 (gives false (l) 32).length d7, .slice q9 (gives (shortBy false (l) 32) ((leftBy false (l) 32)) 32).length d9, .slice none 0 0], .int .i64 0]) (by simp [results, Tryd.results12, go_sem, cA]) rfl (.inr ⟨hD, _, _, _, _, _, _, _, _, _, rfl, bb13, ((vK12.grown g13 (by omega)).low (by omega)), ((vH12.grown g13 (by omega)).low (by omega)), (VA.nil _ _)⟩)

/-- whether the bytes behind the kind 6 are just its fields -/
def decD6 (l : List UInt8) : Bool := (!(shortBy (shortBy (shortBy (shortBy false (l) 32) ((leftBy false (l) 32)) 32) ((leftBy (shortBy false (l) 32) ((leftBy false (l) 32)) 32)) 8) ((leftBy (shortBy (shortBy false (l) 32) ((leftBy false (l) 32)) 32) ((leftBy (shortBy false (l) 32) ((leftBy false (l) 32)) 32)) 8)) 4) && ((leftBy (shortBy (shortBy (shortBy false (l) 32) ((leftBy false (l) 32)) 32) ((leftBy (shortBy false (l) 32) ((leftBy false (l) 32)) 32)) 8) ((leftBy (shortBy (shortBy false (l) 32) ((leftBy false (l) 32)) 32) ((leftBy (shortBy false (l) 32) ((leftBy false (l) 32)) 32)) 8)) 4)).isEmpty)

set_option maxHeartbeats 2000000 in
set_option maxRecDepth 100000 in
theorem dec_6 (p : Option Addr) (m c : Nat) (l : List UInt8) (w : World) (hv : View w (.slice p m c) m 1 (bv (6 :: l))) (hm : m = l.length + 1) (hmax : m ≤ 12000)
    (hg : 2 < w.heap.size) (hs : Cells w 2 36 [.bool false, .bool true, .bool true, .bool true, .bool false, .bool true]) :
    Calls Tryd.prog 12 #[.slice p m c] w fun e w' => (decD6 l = false ∧ e = .returned (.tuple #[.agg #[.int .i64 0, .int .i64 0, .int .i64 0, .int .i64 0, .slice none 0 0, .slice none 0 0, .slice none 0 0], .int .i64 200]) ∧ Below w.heap.size w w') ∨
      (decD6 l = true ∧ ∃ pk nk ck ph nh ch pb nb cb, e = .returned (.tuple #[.agg #[.int .i64 6, .int .i64 (wrap64 (numLE (gives (shortBy (shortBy false (l) 32) ((leftBy false (l) 32)) 32) ((leftBy (shortBy false (l) 32) ((leftBy false (l) 32)) 32)) 8))), .int .i64 0, .int .i64 (wrap64 (numLE (gives (shortBy (shortBy (shortBy false (l) 32) ((leftBy false (l) 32)) 32) ((leftBy (shortBy false (l) 32) ((leftBy false (l) 32)) 32)) 8) ((leftBy (shortBy (shortBy false (l) 32) ((leftBy false (l) 32)) 32) ((leftBy (shortBy false (l) 32) ((leftBy false (l) 32)) 32)) 8)) 4))), .slice pk nk ck, .slice ph nh ch, .slice pb nb cb], .int .i64 0]) ∧ Below w.heap.size w w' ∧
        VA w' (.slice pk nk ck) nk (gives false (l) 32) w.heap.size ∧ VA w' (.slice ph nh ch) nh (gives (shortBy false (l) 32) ((leftBy false (l) 32)) 32) w.heap.size ∧ VA w' (.slice pb nb cb) nb [] w.heap.size) := by
  have q0 : ((m : Int) == 0) = false := by simp; omega
  have q1 : decide ((12000 : Int) < (m : Int)) = false := by simp; omega
  have q2 : 1 ≤ m := by omega
  have hcap : m ≤ c := by
    rcases hv.2 with ⟨he, h4, h5⟩ | ⟨b, off, cap, he, h4, h5, _⟩
    · simp [bv] at h5
    · simp only [Value.slice.injEq] at he; omega
  have hm' := Lib.hid hm
  clear hm
  go_enter Tryd.func12, Tryd.ntmps12
  go_wp2_with (with_reducible refine stAl 24 ?_)
  refine ⟨al rfl 24 rfl (z := .agg #[.int .i64 0, .int .i64 0, .int .i64 0, .int .i64 0, .slice none 0 0, .slice none 0 0, .slice none 0 0]) (by kernel_rfl) ?_⟩
  intro W1 z1 h1 b1
  simp only [Value.cells] at h1
  have HA1 := Lib.hid h1
  clear h1
  go_wp2_with (first | go_skip | (with_reducible refine stIg 22 ?_))
  refine ⟨idx sk22 rfl (.tmp 16) (.const (.int .i64 0)) rfl rfl (hv.below b1) rfl 0 rfl (by omega) ?_⟩
  intro b' off' hc' hb'
  have hc1 : W1.cell? ⟨b', off', none⟩ = some (.int .u8 6) := by
    have := hc' 0 (.int .u8 6) rfl
    simpa using this
  clear hc'
  go_wp2_with (first | go_skip | (go_at_call 15; go_in) | (with_reducible refine stIg 22 ?_))
  refine ⟨idx sk22 rfl (.tmp 24) (.const (.int .i64 0)) rfl rfl (hv.below b1) rfl 0 rfl (by omega) ?_⟩
  intro b'' off'' hc' hb''
  have hc2 : W1.cell? ⟨b'', off'', none⟩ = some (.int .u8 6) := by
    have := hc' 0 (.int .u8 6) rfl
    simpa using this
  clear hc' hc1 hb' hb''
  go_wp2_with (with_reducible refine stAl 24 ?_)
  refine ⟨al rfl 24 rfl (z := .agg #[.int .i64 0, .int .i64 0, .int .i64 0, .int .i64 0, .slice none 0 0, .slice none 0 0, .slice none 0 0]) (by kernel_rfl) ?_⟩
  intro W2 z2 h2 b2
  simp only [Value.cells] at h2
  rw [z1] at h2 b2
  have HA2 := Lib.hid ((b2.block w.heap.size (by omega)).trans HA1.out)
  have bb2 : Below w.heap.size w W2 := b1.trans (b2.mono (by omega))
  clear hc2 HA1
  go_wp2_with (with_reducible refine stW 24 ?_)
  refine ⟨stRow rfl 24 (.tmp 4) (.tmp 28) rfl rfl h2 rfl (by kernel_rfl) rfl (by simp [Value.oneCell']) ?_⟩
  clear h2
  intro W3 z3 h3 g3
  obtain ⟨cQ, fQ⟩ := live h3
  have HQ3 := Lib.hid h3
  have HA3 := Lib.hid (keep g3 HA2.out (by omega))
  have bb3 : Below w.heap.size w W3 := bb2.grown g3 (by omega) (by simp)
  clear h3 HA2
  go_wp2_with (with_reducible refine stL 45 ?_)
  refine ⟨ldRow rfl 45 (.tmp 31) rfl rfl _ (hs.below hg bb3) Tryd.underlying45 rfl (by kernel_rfl) ?_⟩
  go_wp2_with (with_reducible refine stAl 45 ?_)
  have y3 : W3.heap.size = w.heap.size + 2 := by omega
  refine ⟨al rfl 45 rfl (z := .agg #[.bool false, .bool false, .bool false, .bool false, .bool false, .bool false]) (by kernel_rfl) ?_⟩
  intro W4 z4 h4 b4
  simp only [Value.cells] at h4
  rw [y3] at h4 b4
  have HA4 := Lib.hid ((b4.block w.heap.size (by omega)).trans HA3.out)
  have HQ4 := Lib.hid ((b4.block (w.heap.size + 1) (by omega)).trans HQ3.out)
  have bb4 : Below w.heap.size w W4 := bb3.trans (b4.mono (by omega))
  clear cQ fQ HA3 HQ3
  go_wp2_with (with_reducible refine stW 45 ?_)
  refine ⟨stRow rfl 45 (.tmp 5) (.tmp 32) rfl rfl h4 rfl (by kernel_rfl) rfl (by simp [Value.oneCell']) ?_⟩
  clear h4
  intro W5 z5 h5 g5
  have HA5 := Lib.hid (keep g5 HA4.out (by omega))
  have HQ5 := Lib.hid (keep g5 HQ4.out (by omega))
  have bb5 : Below w.heap.size w W5 := bb4.grown g5 (by omega) (by simp; omega)
  have HF5 := Lib.hid h5
  clear h5 HA4 HQ4
  go_wp2_with (with_reducible refine stS ?_)
  have hv5 : View W5 (.slice p m c) m 1 (bv (6 :: l)) := hv.below bb5
  refine ⟨slcL sk22 rfl (.tmp 33) (.const (.int .i64 1)) rfl (y := p) (n := m) (c := c) rfl hv5 1 rfl (by omega) ?_⟩
  intro p2 v2 o2
  go_wp2_with (with_reducible refine stB 53 ?_)
  have y5 : W5.heap.size = w.heap.size + 3 := by omega
  refine ⟨bx rfl 53 (.tmp 35) rfl (v := .agg #[.slice p2 (m - 1) (c - 1), .bool false]) rfl ?_⟩
  intro W6 z6 h6 b6
  simp only [Value.cells] at h6
  rw [y5] at h6 b6 z6
  have HA6 := Lib.hid ((b6.block w.heap.size (by omega)).trans HA5.out)
  have HQ6 := Lib.hid ((b6.block (w.heap.size + 1) (by omega)).trans HQ5.out)
  have HF6 := Lib.hid ((b6.block (w.heap.size + 2) (by omega)).trans HF5.out)
  have bb6 : Below w.heap.size w W6 := bb5.trans (b6.mono (by omega))
  have hl := hm'.out
  have hr6 : RdIs W6 (w.heap.size + 3) w.heap.size p2 (m - 1) (c - 1) false l :=
    ⟨h6, (by simpa [bv] using v2.below (by rw [y5]; exact b6)), by omega, fun k hk => hv.lt k (o2 k hk), by omega⟩
  have y6 : w.heap.size + 4 ≤ W6.heap.size := by omega
  clear v2 h6 HA5 HQ5 HF5 hv5 b6 z1 z2 z3 z4 z5 y3 b1 b2 b4 g3 g5 bb2 bb3 bb4 bb5 hl
  obtain ⟨cF, fF⟩ := live HF6.out
  go_wp2_with (first | (go_at_call 19; with_reducible refine stK ?_) | (go_at_call 20; with_reducible refine stK ?_) | (go_at_call 21; with_reducible refine stK ?_))
  refine ⟨(copied_spec (w.heap.size + 3) w.heap.size _ _ _ _ _ 32 _ hr6 (by omega)).mono ?_⟩
  rintro e W7 ⟨q7, d7, p7, m7, c7, rfl, hr7, hg7, ho7⟩
  have HA7 := Lib.hid (keep hg7 HA6.out (by omega))
  have HQ7 := Lib.hid (keep hg7 HQ6.out (by omega))
  have HF7 := Lib.hid (keep hg7 HF6.out (by omega))
  have bb7 : Below w.heap.size w W7 := bb6.grown hg7 (by omega) (by simp)
  have y7 : w.heap.size + 4 ≤ W7.heap.size := by have := hg7.size; omega
  have vK7 := (VA.own ho7).low y6
  clear cF fF
  obtain ⟨cF, fF⟩ := live HF7.out
  go_wp2_with (with_reducible refine stW 22 ?_)
  refine ⟨stCell rfl 22 (.tmp 51) (.tmp 50) rfl rfl HQ7.out (v := .slice q7 (gives false (l) 32).length d7) rfl rfl (by kernel_rfl) (by simp) ?_⟩
  intro W8 z8 h8 g8
  have HQ8 : Hid (W8.heap[w.heap.size + 1]? = some (.cells #[.int .i64 6, .int .i64 0, .int .i64 0, .int .i64 0, .slice q7 (gives false (l) 32).length d7, .slice none 0 0, .slice none 0 0] 24 (0, 0))) := h8
  have HA8 := Lib.hid (keep g8 HA7.out (by omega))
  have HF8 := Lib.hid (keep g8 HF7.out (by omega))
  have rdne7 : ∀ k, (Value.slice p7 m7 c7).ownBlock = some k → some k ≠ some (w.heap.size + 1) := fun k hk => by have := hr7.2.2.2.1 k hk; simp; omega
  have hr8 : RdIs W8 (w.heap.size + 3) w.heap.size _ _ _ _ _ := ⟨keep g8 hr7.1 (by omega), hr7.2.1.grown g8 (fun k hk => rdne7 k hk), hr7.2.2⟩
  have bb8 : Below w.heap.size w W8 := bb7.grown g8 (by omega) (by simp)
  have y8 : w.heap.size + 4 ≤ W8.heap.size := by omega
  have vK8 := vK7.grown g8 (by omega)
  clear cF fF h8
  obtain ⟨cF, fF⟩ := live HF8.out
  go_wp2_with (first | (go_at_call 19; with_reducible refine stK ?_) | (go_at_call 20; with_reducible refine stK ?_) | (go_at_call 21; with_reducible refine stK ?_))
  refine ⟨(copied_spec (w.heap.size + 3) w.heap.size _ _ _ _ _ 32 _ hr8 (by have := hr8.2.2.1; have := leftBy_le false (l) 32; have := hm'.out; omega)).mono ?_⟩
  rintro e W9 ⟨q9, d9, p9, m9, c9, rfl, hr9, hg9, ho9⟩
  have HA9 := Lib.hid (keep hg9 HA8.out (by omega))
  have HQ9 := Lib.hid (keep hg9 HQ8.out (by omega))
  have HF9 := Lib.hid (keep hg9 HF8.out (by omega))
  have bb9 : Below w.heap.size w W9 := bb8.grown hg9 (by omega) (by simp)
  have y9 : w.heap.size + 4 ≤ W9.heap.size := by have := hg9.size; omega
  have vK9 := vK8.grown hg9 (by omega)
  have vH9 := (VA.own ho9).low y8
  clear cF fF
  obtain ⟨cF, fF⟩ := live HF9.out
  go_wp2_with (with_reducible refine stW 22 ?_)
  refine ⟨stCell rfl 22 (.tmp 56) (.tmp 55) rfl rfl HQ9.out (v := .slice q9 (gives (shortBy false (l) 32) ((leftBy false (l) 32)) 32).length d9) rfl rfl (by kernel_rfl) (by simp) ?_⟩
  intro W10 z10 h10 g10
  have HQ10 : Hid (W10.heap[w.heap.size + 1]? = some (.cells #[.int .i64 6, .int .i64 0, .int .i64 0, .int .i64 0, .slice q7 (gives false (l) 32).length d7, .slice q9 (gives (shortBy false (l) 32) ((leftBy false (l) 32)) 32).length d9, .slice none 0 0] 24 (0, 0))) := h10
  have HA10 := Lib.hid (keep g10 HA9.out (by omega))
  have HF10 := Lib.hid (keep g10 HF9.out (by omega))
  have rdne9 : ∀ k, (Value.slice p9 m9 c9).ownBlock = some k → some k ≠ some (w.heap.size + 1) := fun k hk => by have := hr9.2.2.2.1 k hk; simp; omega
  have hr10 : RdIs W10 (w.heap.size + 3) w.heap.size _ _ _ _ _ := ⟨keep g10 hr9.1 (by omega), hr9.2.1.grown g10 (fun k hk => rdne9 k hk), hr9.2.2⟩
  have bb10 : Below w.heap.size w W10 := bb9.grown g10 (by omega) (by simp)
  have y10 : w.heap.size + 4 ≤ W10.heap.size := by omega
  have vK10 := vK9.grown g10 (by omega)
  have vH10 := vH9.grown g10 (by omega)
  clear cF fF h10
  obtain ⟨cF, fF⟩ := live HF10.out
  go_wp2_with (first | (go_at_call 19; with_reducible refine stK ?_) | (go_at_call 20; with_reducible refine stK ?_) | (go_at_call 21; with_reducible refine stK ?_))
  refine ⟨(number_spec (w.heap.size + 3) w.heap.size _ _ _ _ _ 8 _ hr10 (by omega)).mono ?_⟩
  rintro e W11 ⟨p11, m11, c11, rfl, hr11, hg11⟩
  have HA11 := Lib.hid (keep hg11 HA10.out (by omega))
  have HQ11 := Lib.hid (keep hg11 HQ10.out (by omega))
  have HF11 := Lib.hid (keep hg11 HF10.out (by omega))
  have bb11 : Below w.heap.size w W11 := bb10.grown hg11 (by omega) (by simp)
  have y11 : w.heap.size + 4 ≤ W11.heap.size := by have := hg11.size; omega
  have vK11 := vK10.grown hg11 (by omega)
  have vH11 := vH10.grown hg11 (by omega)
  clear cF fF
  obtain ⟨cF, fF⟩ := live HF11.out
  go_wp2_with (with_reducible refine stW 3 ?_)
  refine ⟨stCell rfl 3 (.tmp 62) (.tmp 61) rfl rfl HQ11.out (v := .int .i64 (wrap64 (numLE (gives (shortBy (shortBy false (l) 32) ((leftBy false (l) 32)) 32) ((leftBy (shortBy false (l) 32) ((leftBy false (l) 32)) 32)) 8)))) rfl rfl (by kernel_rfl) (by simp) ?_⟩
  intro W12 z12 h12 g12
  have HQ12 : Hid (W12.heap[w.heap.size + 1]? = some (.cells #[.int .i64 6, .int .i64 (wrap64 (numLE (gives (shortBy (shortBy false (l) 32) ((leftBy false (l) 32)) 32) ((leftBy (shortBy false (l) 32) ((leftBy false (l) 32)) 32)) 8))), .int .i64 0, .int .i64 0, .slice q7 (gives false (l) 32).length d7, .slice q9 (gives (shortBy false (l) 32) ((leftBy false (l) 32)) 32).length d9, .slice none 0 0] 24 (0, 0))) := h12
  have HA12 := Lib.hid (keep g12 HA11.out (by omega))
  have HF12 := Lib.hid (keep g12 HF11.out (by omega))
  have rdne11 : ∀ k, (Value.slice p11 m11 c11).ownBlock = some k → some k ≠ some (w.heap.size + 1) := fun k hk => by have := hr11.2.2.2.1 k hk; simp; omega
  have hr12 : RdIs W12 (w.heap.size + 3) w.heap.size _ _ _ _ _ := ⟨keep g12 hr11.1 (by omega), hr11.2.1.grown g12 (fun k hk => rdne11 k hk), hr11.2.2⟩
  have bb12 : Below w.heap.size w W12 := bb11.grown g12 (by omega) (by simp)
  have y12 : w.heap.size + 4 ≤ W12.heap.size := by omega
  have vK12 := vK11.grown g12 (by omega)
  have vH12 := vH11.grown g12 (by omega)
  clear cF fF h12
  obtain ⟨cF, fF⟩ := live HF12.out
  go_wp2_with (first | (go_at_call 19; with_reducible refine stK ?_) | (go_at_call 20; with_reducible refine stK ?_) | (go_at_call 21; with_reducible refine stK ?_))
  refine ⟨(number_spec (w.heap.size + 3) w.heap.size _ _ _ _ _ 4 _ hr12 (by omega)).mono ?_⟩
  rintro e W13 ⟨p13, m13, c13, rfl, hr13, hg13⟩
  have HA13 := Lib.hid (keep hg13 HA12.out (by omega))
  have HQ13 := Lib.hid (keep hg13 HQ12.out (by omega))
  have HF13 := Lib.hid (keep hg13 HF12.out (by omega))
  have bb13 : Below w.heap.size w W13 := bb12.grown hg13 (by omega) (by simp)
  have y13 : w.heap.size + 4 ≤ W13.heap.size := by have := hg13.size; omega
  have vK13 := vK12.grown hg13 (by omega)
  have vH13 := vH12.grown hg13 (by omega)
  clear cF fF
  obtain ⟨cF, fF⟩ := live HF13.out
  go_wp2_with (with_reducible refine stW 3 ?_)
  refine ⟨stCell rfl 3 (.tmp 74) (.tmp 73) rfl rfl HQ13.out (v := .int .i64 (wrap64 (numLE (gives (shortBy (shortBy (shortBy false (l) 32) ((leftBy false (l) 32)) 32) ((leftBy (shortBy false (l) 32) ((leftBy false (l) 32)) 32)) 8) ((leftBy (shortBy (shortBy false (l) 32) ((leftBy false (l) 32)) 32) ((leftBy (shortBy false (l) 32) ((leftBy false (l) 32)) 32)) 8)) 4)))) rfl rfl (by kernel_rfl) (by simp) ?_⟩
  intro W14 z14 h14 g14
  have HQ14 : Hid (W14.heap[w.heap.size + 1]? = some (.cells #[.int .i64 6, .int .i64 (wrap64 (numLE (gives (shortBy (shortBy false (l) 32) ((leftBy false (l) 32)) 32) ((leftBy (shortBy false (l) 32) ((leftBy false (l) 32)) 32)) 8))), .int .i64 0, .int .i64 (wrap64 (numLE (gives (shortBy (shortBy (shortBy false (l) 32) ((leftBy false (l) 32)) 32) ((leftBy (shortBy false (l) 32) ((leftBy false (l) 32)) 32)) 8) ((leftBy (shortBy (shortBy false (l) 32) ((leftBy false (l) 32)) 32) ((leftBy (shortBy false (l) 32) ((leftBy false (l) 32)) 32)) 8)) 4))), .slice q7 (gives false (l) 32).length d7, .slice q9 (gives (shortBy false (l) 32) ((leftBy false (l) 32)) 32).length d9, .slice none 0 0] 24 (0, 0))) := h14
  have HA14 := Lib.hid (keep g14 HA13.out (by omega))
  have HF14 := Lib.hid (keep g14 HF13.out (by omega))
  have rdne13 : ∀ k, (Value.slice p13 m13 c13).ownBlock = some k → some k ≠ some (w.heap.size + 1) := fun k hk => by have := hr13.2.2.2.1 k hk; simp; omega
  have hr14 : RdIs W14 (w.heap.size + 3) w.heap.size _ _ _ _ _ := ⟨keep g14 hr13.1 (by omega), hr13.2.1.grown g14 (fun k hk => rdne13 k hk), hr13.2.2⟩
  have bb14 : Below w.heap.size w W14 := bb13.grown g14 (by omega) (by simp)
  have y14 : w.heap.size + 4 ≤ W14.heap.size := by omega
  have vK14 := vK13.grown g14 (by omega)
  have vH14 := vH13.grown g14 (by omega)
  clear cF fF h14
  obtain ⟨cF, fF⟩ := live HF14.out
  go_wp2_with (first | (go_at_call 19; with_reducible refine stK ?_) | (go_at_call 20; with_reducible refine stK ?_) | (go_at_call 21; with_reducible refine stK ?_))
  refine ⟨(done_spec (w.heap.size + 3) w.heap.size _ _ _ _ _ _ hr14).mono ?_⟩
  rintro e W ⟨rfl, rfl⟩
  obtain ⟨cQ, fQ⟩ := live HQ14.out
  rw [show (!(shortBy (shortBy (shortBy (shortBy false (l) 32) ((leftBy false (l) 32)) 32) ((leftBy (shortBy false (l) 32) ((leftBy false (l) 32)) 32)) 8) ((leftBy (shortBy (shortBy false (l) 32) ((leftBy false (l) 32)) 32) ((leftBy (shortBy false (l) 32) ((leftBy false (l) 32)) 32)) 8)) 4) && ((leftBy (shortBy (shortBy (shortBy false (l) 32) ((leftBy false (l) 32)) 32) ((leftBy (shortBy false (l) 32) ((leftBy false (l) 32)) 32)) 8) ((leftBy (shortBy (shortBy false (l) 32) ((leftBy false (l) 32)) 32) ((leftBy (shortBy false (l) 32) ((leftBy false (l) 32)) 32)) 8)) 4)).isEmpty) = decD6 l from rfl]
  cases hD : decD6 l with
  | false =>
    go_wp2_with (with_reducible refine stW 24 ?_)
    refine ⟨stRow rfl 24 (.tmp 2) (.tmp 78) rfl rfl HA14.out rfl (by kernel_rfl) rfl (by simp [Value.oneCell']) ?_⟩
    intro W15 z15 h15 g15
    obtain ⟨cA, fA⟩ := live h15
    clear h15
    have bb15 : Below w.heap.size w W15 := bb14.grown g15 (by omega) (by simp)
    go_wp2
    refine bodyPost_ret (v := .tuple #[.agg #[.int .i64 0, .int .i64 0, .int .i64 0, .int .i64 0, .slice none 0 0, .slice none 0 0, .slice none 0 0], .int .i64 200]) (by simp [results, Tryd.results12, go_sem, cA]) rfl (.inl ⟨hD, rfl, bb15⟩)
  | true =>
    go_wp2_with (with_reducible refine stW 24 ?_)
    refine ⟨stRow rfl 24 (.tmp 2) (.tmp 79) rfl rfl HA14.out (c' := #[.int .i64 6, .int .i64 (wrap64 (numLE (gives (shortBy (shortBy false (l) 32) ((leftBy false (l) 32)) 32) ((leftBy (shortBy false (l) 32) ((leftBy false (l) 32)) 32)) 8))), .int .i64 0, .int .i64 (wrap64 (numLE (gives (shortBy (shortBy (shortBy false (l) 32) ((leftBy false (l) 32)) 32) ((leftBy (shortBy false (l) 32) ((leftBy false (l) 32)) 32)) 8) ((leftBy (shortBy (shortBy false (l) 32) ((leftBy false (l) 32)) 32) ((leftBy (shortBy false (l) 32) ((leftBy false (l) 32)) 32)) 8)) 4))), .slice q7 (gives false (l) 32).length d7, .slice q9 (gives (shortBy false (l) 32) ((leftBy false (l) 32)) 32).length d9, .slice none 0 0]) rfl (by kernel_rfl) rfl (by simp [Value.oneCell']) ?_⟩
    intro W15 z15 h15 g15
    obtain ⟨cA, fA⟩ := live h15
    clear h15
    have bb15 : Below w.heap.size w W15 := bb14.grown g15 (by omega) (by simp)
    go_wp2
    refine bodyPost_ret (v := .tuple #[.agg #[.int .i64 6, .int .i64 (wrap64 (numLE (gives (shortBy (shortBy false (l) 32) ((leftBy false (l) 32)) 32) ((leftBy (shortBy false (l) 32) ((leftBy false (l) 32)) 32)) 8))), .int .i64 0, .int .i64 (wrap64 (numLE (gives (shortBy (shortBy (shortBy false (l) 32) ((leftBy false (l) 32)) 32) ((leftBy (shortBy false (l) 32) ((leftBy false (l) 32)) 32)) 8) ((leftBy (shortBy (shortBy false (l) 32) ((leftBy false (l) 32)) 32) ((leftBy (shortBy false (l) 32) ((leftBy false (l) 32)) 32)) 8)) 4))), .slice q7 (gives false (l) 32).length d7, .slice q9 (gives (shortBy false (l) 32) ((leftBy false (l) 32)) 32).length d9, .slice none 0 0], .int .i64 0]) (by simp [results, Tryd.results12, go_sem, cA]) rfl (.inr ⟨hD, _, _, _, _, _, _, _, _, _, rfl, bb15, ((vK14.grown g15 (by omega)).low (by omega)), ((vH14.grown g15 (by omega)).low (by omega)), (VA.nil _ _)⟩)

/-- whether the bytes behind the kind 7 are just its fields -/
def decD7 (l : List UInt8) : Bool := (!(shortBy (shortBy false (l) 8) ((leftBy false (l) 8)) 8) && ((leftBy (shortBy false (l) 8) ((leftBy false (l) 8)) 8)).isEmpty)

set_option maxHeartbeats 2000000 in
set_option maxRecDepth 100000 in
theorem dec_7 (p : Option Addr) (m c : Nat) (l : List UInt8) (w : World) (hv : View w (.slice p m c) m 1 (bv (7 :: l))) (hm : m = l.length + 1) (hmax : m ≤ 12000)
    (hg : 2 < w.heap.size) (hs : Cells w 2 42 [.bool false, .bool false, .bool false, .bool true, .bool true, .bool false]) :
    Calls Tryd.prog 12 #[.slice p m c] w fun e w' => (decD7 l = false ∧ e = .returned (.tuple #[.agg #[.int .i64 0, .int .i64 0, .int .i64 0, .int .i64 0, .slice none 0 0, .slice none 0 0, .slice none 0 0], .int .i64 200]) ∧ Below w.heap.size w w') ∨
      (decD7 l = true ∧ ∃ pk nk ck ph nh ch pb nb cb, e = .returned (.tuple #[.agg #[.int .i64 7, .int .i64 (wrap64 (numLE (gives false (l) 8))), .int .i64 (wrap64 (numLE (gives (shortBy false (l) 8) ((leftBy false (l) 8)) 8))), .int .i64 0, .slice pk nk ck, .slice ph nh ch, .slice pb nb cb], .int .i64 0]) ∧ Below w.heap.size w w' ∧
        VA w' (.slice pk nk ck) nk [] w.heap.size ∧ VA w' (.slice ph nh ch) nh [] w.heap.size ∧ VA w' (.slice pb nb cb) nb [] w.heap.size) := by
  have q0 : ((m : Int) == 0) = false := by simp; omega
  have q1 : decide ((12000 : Int) < (m : Int)) = false := by simp; omega
  have q2 : 1 ≤ m := by omega
  have hcap : m ≤ c := by
    rcases hv.2 with ⟨he, h4, h5⟩ | ⟨b, off, cap, he, h4, h5, _⟩
    · simp [bv] at h5
    · simp only [Value.slice.injEq] at he; omega
  have hm' := Lib.hid hm
  clear hm
  go_enter Tryd.func12, Tryd.ntmps12
  go_wp2_with (with_reducible refine stAl 24 ?_)
  refine ⟨al rfl 24 rfl (z := .agg #[.int .i64 0, .int .i64 0, .int .i64 0, .int .i64 0, .slice none 0 0, .slice none 0 0, .slice none 0 0]) (by kernel_rfl) ?_⟩
  intro W1 z1 h1 b1
  simp only [Value.cells] at h1
  have HA1 := Lib.hid h1
  clear h1
  go_wp2_with (first | go_skip | (with_reducible refine stIg 22 ?_))
  refine ⟨idx sk22 rfl (.tmp 16) (.const (.int .i64 0)) rfl rfl (hv.below b1) rfl 0 rfl (by omega) ?_⟩
  intro b' off' hc' hb'
  have hc1 : W1.cell? ⟨b', off', none⟩ = some (.int .u8 7) := by
    have := hc' 0 (.int .u8 7) rfl
    simpa using this
  clear hc'
  go_wp2_with (first | go_skip | (go_at_call 15; go_in) | (with_reducible refine stIg 22 ?_))
  refine ⟨idx sk22 rfl (.tmp 24) (.const (.int .i64 0)) rfl rfl (hv.below b1) rfl 0 rfl (by omega) ?_⟩
  intro b'' off'' hc' hb''
  have hc2 : W1.cell? ⟨b'', off'', none⟩ = some (.int .u8 7) := by
    have := hc' 0 (.int .u8 7) rfl
    simpa using this
  clear hc' hc1 hb' hb''
  go_wp2_with (with_reducible refine stAl 24 ?_)
  refine ⟨al rfl 24 rfl (z := .agg #[.int .i64 0, .int .i64 0, .int .i64 0, .int .i64 0, .slice none 0 0, .slice none 0 0, .slice none 0 0]) (by kernel_rfl) ?_⟩
  intro W2 z2 h2 b2
  simp only [Value.cells] at h2
  rw [z1] at h2 b2
  have HA2 := Lib.hid ((b2.block w.heap.size (by omega)).trans HA1.out)
  have bb2 : Below w.heap.size w W2 := b1.trans (b2.mono (by omega))
  clear hc2 HA1
  go_wp2_with (with_reducible refine stW 24 ?_)
  refine ⟨stRow rfl 24 (.tmp 4) (.tmp 28) rfl rfl h2 rfl (by kernel_rfl) rfl (by simp [Value.oneCell']) ?_⟩
  clear h2
  intro W3 z3 h3 g3
  obtain ⟨cQ, fQ⟩ := live h3
  have HQ3 := Lib.hid h3
  have HA3 := Lib.hid (keep g3 HA2.out (by omega))
  have bb3 : Below w.heap.size w W3 := bb2.grown g3 (by omega) (by simp)
  clear h3 HA2
  go_wp2_with (with_reducible refine stL 45 ?_)
  refine ⟨ldRow rfl 45 (.tmp 31) rfl rfl _ (hs.below hg bb3) Tryd.underlying45 rfl (by kernel_rfl) ?_⟩
  go_wp2_with (with_reducible refine stAl 45 ?_)
  have y3 : W3.heap.size = w.heap.size + 2 := by omega
  refine ⟨al rfl 45 rfl (z := .agg #[.bool false, .bool false, .bool false, .bool false, .bool false, .bool false]) (by kernel_rfl) ?_⟩
  intro W4 z4 h4 b4
  simp only [Value.cells] at h4
  rw [y3] at h4 b4
  have HA4 := Lib.hid ((b4.block w.heap.size (by omega)).trans HA3.out)
  have HQ4 := Lib.hid ((b4.block (w.heap.size + 1) (by omega)).trans HQ3.out)
  have bb4 : Below w.heap.size w W4 := bb3.trans (b4.mono (by omega))
  clear cQ fQ HA3 HQ3
  go_wp2_with (with_reducible refine stW 45 ?_)
  refine ⟨stRow rfl 45 (.tmp 5) (.tmp 32) rfl rfl h4 rfl (by kernel_rfl) rfl (by simp [Value.oneCell']) ?_⟩
  clear h4
  intro W5 z5 h5 g5
  have HA5 := Lib.hid (keep g5 HA4.out (by omega))
  have HQ5 := Lib.hid (keep g5 HQ4.out (by omega))
  have bb5 : Below w.heap.size w W5 := bb4.grown g5 (by omega) (by simp; omega)
  have HF5 := Lib.hid h5
  clear h5 HA4 HQ4
  go_wp2_with (with_reducible refine stS ?_)
  have hv5 : View W5 (.slice p m c) m 1 (bv (7 :: l)) := hv.below bb5
  refine ⟨slcL sk22 rfl (.tmp 33) (.const (.int .i64 1)) rfl (y := p) (n := m) (c := c) rfl hv5 1 rfl (by omega) ?_⟩
  intro p2 v2 o2
  go_wp2_with (with_reducible refine stB 53 ?_)
  have y5 : W5.heap.size = w.heap.size + 3 := by omega
  refine ⟨bx rfl 53 (.tmp 35) rfl (v := .agg #[.slice p2 (m - 1) (c - 1), .bool false]) rfl ?_⟩
  intro W6 z6 h6 b6
  simp only [Value.cells] at h6
  rw [y5] at h6 b6 z6
  have HA6 := Lib.hid ((b6.block w.heap.size (by omega)).trans HA5.out)
  have HQ6 := Lib.hid ((b6.block (w.heap.size + 1) (by omega)).trans HQ5.out)
  have HF6 := Lib.hid ((b6.block (w.heap.size + 2) (by omega)).trans HF5.out)
  have bb6 : Below w.heap.size w W6 := bb5.trans (b6.mono (by omega))
  have hl := hm'.out
  have hr6 : RdIs W6 (w.heap.size + 3) w.heap.size p2 (m - 1) (c - 1) false l :=
    ⟨h6, (by simpa [bv] using v2.below (by rw [y5]; exact b6)), by omega, fun k hk => hv.lt k (o2 k hk), by omega⟩
  have y6 : w.heap.size + 4 ≤ W6.heap.size := by omega
  clear v2 h6 HA5 HQ5 HF5 hv5 b6 z1 z2 z3 z4 z5 y3 b1 b2 b4 g3 g5 bb2 bb3 bb4 bb5 hl
  obtain ⟨cF, fF⟩ := live HF6.out
  go_wp2_with (first | (go_at_call 19; with_reducible refine stK ?_) | (go_at_call 20; with_reducible refine stK ?_) | (go_at_call 21; with_reducible refine stK ?_))
  refine ⟨(number_spec (w.heap.size + 3) w.heap.size _ _ _ _ _ 8 _ hr6 (by omega)).mono ?_⟩
  rintro e W7 ⟨p7, m7, c7, rfl, hr7, hg7⟩
  have HA7 := Lib.hid (keep hg7 HA6.out (by omega))
  have HQ7 := Lib.hid (keep hg7 HQ6.out (by omega))
  have HF7 := Lib.hid (keep hg7 HF6.out (by omega))
  have bb7 : Below w.heap.size w W7 := bb6.grown hg7 (by omega) (by simp)
  have y7 : w.heap.size + 4 ≤ W7.heap.size := by have := hg7.size; omega
  clear cF fF
  obtain ⟨cF, fF⟩ := live HF7.out
  go_wp2_with (with_reducible refine stW 3 ?_)
  refine ⟨stCell rfl 3 (.tmp 62) (.tmp 61) rfl rfl HQ7.out (v := .int .i64 (wrap64 (numLE (gives false (l) 8)))) rfl rfl (by kernel_rfl) (by simp) ?_⟩
  intro W8 z8 h8 g8
  have HQ8 : Hid (W8.heap[w.heap.size + 1]? = some (.cells #[.int .i64 7, .int .i64 (wrap64 (numLE (gives false (l) 8))), .int .i64 0, .int .i64 0, .slice none 0 0, .slice none 0 0, .slice none 0 0] 24 (0, 0))) := h8
  have HA8 := Lib.hid (keep g8 HA7.out (by omega))
  have HF8 := Lib.hid (keep g8 HF7.out (by omega))
  have rdne7 : ∀ k, (Value.slice p7 m7 c7).ownBlock = some k → some k ≠ some (w.heap.size + 1) := fun k hk => by have := hr7.2.2.2.1 k hk; simp; omega
  have hr8 : RdIs W8 (w.heap.size + 3) w.heap.size _ _ _ _ _ := ⟨keep g8 hr7.1 (by omega), hr7.2.1.grown g8 (fun k hk => rdne7 k hk), hr7.2.2⟩
  have bb8 : Below w.heap.size w W8 := bb7.grown g8 (by omega) (by simp)
  have y8 : w.heap.size + 4 ≤ W8.heap.size := by omega
  clear cF fF h8
  obtain ⟨cF, fF⟩ := live HF8.out
  go_wp2_with (first | (go_at_call 19; with_reducible refine stK ?_) | (go_at_call 20; with_reducible refine stK ?_) | (go_at_call 21; with_reducible refine stK ?_))
  refine ⟨(number_spec (w.heap.size + 3) w.heap.size _ _ _ _ _ 8 _ hr8 (by omega)).mono ?_⟩
  rintro e W9 ⟨p9, m9, c9, rfl, hr9, hg9⟩
  have HA9 := Lib.hid (keep hg9 HA8.out (by omega))
  have HQ9 := Lib.hid (keep hg9 HQ8.out (by omega))
  have HF9 := Lib.hid (keep hg9 HF8.out (by omega))
  have bb9 : Below w.heap.size w W9 := bb8.grown hg9 (by omega) (by simp)
  have y9 : w.heap.size + 4 ≤ W9.heap.size := by have := hg9.size; omega
  clear cF fF
  obtain ⟨cF, fF⟩ := live HF9.out
  go_wp2_with (with_reducible refine stW 3 ?_)
  refine ⟨stCell rfl 3 (.tmp 68) (.tmp 67) rfl rfl HQ9.out (v := .int .i64 (wrap64 (numLE (gives (shortBy false (l) 8) ((leftBy false (l) 8)) 8)))) rfl rfl (by kernel_rfl) (by simp) ?_⟩
  intro W10 z10 h10 g10
  have HQ10 : Hid (W10.heap[w.heap.size + 1]? = some (.cells #[.int .i64 7, .int .i64 (wrap64 (numLE (gives false (l) 8))), .int .i64 (wrap64 (numLE (gives (shortBy false (l) 8) ((leftBy false (l) 8)) 8))), .int .i64 0, .slice none 0 0, .slice none 0 0, .slice none 0 0] 24 (0, 0))) := h10
  have HA10 := Lib.hid (keep g10 HA9.out (by omega))
  have HF10 := Lib.hid (keep g10 HF9.out (by omega))
  have rdne9 : ∀ k, (Value.slice p9 m9 c9).ownBlock = some k → some k ≠ some (w.heap.size + 1) := fun k hk => by have := hr9.2.2.2.1 k hk; simp; omega
  have hr10 : RdIs W10 (w.heap.size + 3) w.heap.size _ _ _ _ _ := ⟨keep g10 hr9.1 (by omega), hr9.2.1.grown g10 (fun k hk => rdne9 k hk), hr9.2.2⟩
  have bb10 : Below w.heap.size w W10 := bb9.grown g10 (by omega) (by simp)
  have y10 : w.heap.size + 4 ≤ W10.heap.size := by omega
  clear cF fF h10
  obtain ⟨cF, fF⟩ := live HF10.out
  go_wp2_with (first | (go_at_call 19; with_reducible refine stK ?_) | (go_at_call 20; with_reducible refine stK ?_) | (go_at_call 21; with_reducible refine stK ?_))
  refine ⟨(done_spec (w.heap.size + 3) w.heap.size _ _ _ _ _ _ hr10).mono ?_⟩
  rintro e W ⟨rfl, rfl⟩
  obtain ⟨cQ, fQ⟩ := live HQ10.out
  rw [show (!(shortBy (shortBy false (l) 8) ((leftBy false (l) 8)) 8) && ((leftBy (shortBy false (l) 8) ((leftBy false (l) 8)) 8)).isEmpty) = decD7 l from rfl]
  cases hD : decD7 l with
  | false =>
    go_wp2_with (with_reducible refine stW 24 ?_)
    refine ⟨stRow rfl 24 (.tmp 2) (.tmp 78) rfl rfl HA10.out rfl (by kernel_rfl) rfl (by simp [Value.oneCell']) ?_⟩
    intro W11 z11 h11 g11
    obtain ⟨cA, fA⟩ := live h11
    clear h11
    have bb11 : Below w.heap.size w W11 := bb10.grown g11 (by omega) (by simp)
    go_wp2
    refine bodyPost_ret (v := .tuple #[.agg #[.int .i64 0, .int .i64 0, .int .i64 0, .int .i64 0, .slice none 0 0, .slice none 0 0, .slice none 0 0], .int .i64 200]) (by simp [results, Tryd.results12, go_sem, cA]) rfl (.inl ⟨hD, rfl, bb11⟩)
  | true =>
    go_wp2_with (with_reducible refine stW 24 ?_)
    refine ⟨stRow rfl 24 (.tmp 2) (.tmp 79) rfl rfl HA10.out (c' := #[.int .i64 7, .int .i64 (wrap64 (numLE (gives false (l) 8))), .int .i64 (wrap64 (numLE (gives (shortBy false (l) 8) ((leftBy false (l) 8)) 8))), .int .i64 0, .slice none 0 0, .slice none 0 0, .slice none 0 0]) rfl (by kernel_rfl) rfl (by simp [Value.oneCell']) ?_⟩
    intro W11 z11 h11 g11
    obtain ⟨cA, fA⟩ := live h11
    clear h11
    have bb11 : Below w.heap.size w W11 := bb10.grown g11 (by omega) (by simp)
    go_wp2
    refine bodyPost_ret (v := .tuple #[.agg #[.int .i64 7, .int .i64 (wrap64 (numLE (gives false (l) 8))), .int .i64 (wrap64 (numLE (gives (shortBy false (l) 8) ((leftBy false (l) 8)) 8))), .int .i64 0, .slice none 0 0, .slice none 0 0, .slice none 0 0], .int .i64 0]) (by simp [results, Tryd.results12, go_sem, cA]) rfl (.inr ⟨hD, _, _, _, _, _, _, _, _, _, rfl, bb11, (VA.nil _ _), (VA.nil _ _), (VA.nil _ _)⟩)

/-- whether the bytes behind the kind 8 are just its fields -/
def decD8 (l : List UInt8) : Bool := (!false && (l).isEmpty)

set_option maxHeartbeats 2000000 in
set_option maxRecDepth 100000 in
theorem dec_8 (p : Option Addr) (m c : Nat) (l : List UInt8) (w : World) (hv : View w (.slice p m c) m 1 (bv (8 :: l))) (hm : m = l.length + 1) (hmax : m ≤ 12000)
    (hg : 2 < w.heap.size) (hs : Cells w 2 48 [.bool false, .bool false, .bool false, .bool false, .bool false, .bool false]) :
    Calls Tryd.prog 12 #[.slice p m c] w fun e w' => (decD8 l = false ∧ e = .returned (.tuple #[.agg #[.int .i64 0, .int .i64 0, .int .i64 0, .int .i64 0, .slice none 0 0, .slice none 0 0, .slice none 0 0], .int .i64 200]) ∧ Below w.heap.size w w') ∨
      (decD8 l = true ∧ ∃ pk nk ck ph nh ch pb nb cb, e = .returned (.tuple #[.agg #[.int .i64 8, .int .i64 0, .int .i64 0, .int .i64 0, .slice pk nk ck, .slice ph nh ch, .slice pb nb cb], .int .i64 0]) ∧ Below w.heap.size w w' ∧
        VA w' (.slice pk nk ck) nk [] w.heap.size ∧ VA w' (.slice ph nh ch) nh [] w.heap.size ∧ VA w' (.slice pb nb cb) nb [] w.heap.size) := by
  have q0 : ((m : Int) == 0) = false := by simp; omega
  have q1 : decide ((12000 : Int) < (m : Int)) = false := by simp; omega
  have q2 : 1 ≤ m := by omega
  have hcap : m ≤ c := by
    rcases hv.2 with ⟨he, h4, h5⟩ | ⟨b, off, cap, he, h4, h5, _⟩
    · simp [bv] at h5
    · simp only [Value.slice.injEq] at he; omega
  have hm' := Lib.hid hm
  clear hm
  go_enter Tryd.func12, Tryd.ntmps12
  go_wp2_with (with_reducible refine stAl 24 ?_)
  refine ⟨al rfl 24 rfl (z := .agg #[.int .i64 0, .int .i64 0, .int .i64 0, .int .i64 0, .slice none 0 0, .slice none 0 0, .slice none 0 0]) (by kernel_rfl) ?_⟩
  intro W1 z1 h1 b1
  simp only [Value.cells] at h1
  have HA1 := Lib.hid h1
  clear h1
  go_wp2_with (first | go_skip | (with_reducible refine stIg 22 ?_))
  refine ⟨idx sk22 rfl (.tmp 16) (.const (.int .i64 0)) rfl rfl (hv.below b1) rfl 0 rfl (by omega) ?_⟩
  intro b' off' hc' hb'
  have hc1 : W1.cell? ⟨b', off', none⟩ = some (.int .u8 8) := by
    have := hc' 0 (.int .u8 8) rfl
    simpa using this
  clear hc'
  go_wp2_with (first | go_skip | (go_at_call 15; go_in) | (with_reducible refine stIg 22 ?_))
  refine ⟨idx sk22 rfl (.tmp 24) (.const (.int .i64 0)) rfl rfl (hv.below b1) rfl 0 rfl (by omega) ?_⟩
  intro b'' off'' hc' hb''
  have hc2 : W1.cell? ⟨b'', off'', none⟩ = some (.int .u8 8) := by
    have := hc' 0 (.int .u8 8) rfl
    simpa using this
  clear hc' hc1 hb' hb''
  go_wp2_with (with_reducible refine stAl 24 ?_)
  refine ⟨al rfl 24 rfl (z := .agg #[.int .i64 0, .int .i64 0, .int .i64 0, .int .i64 0, .slice none 0 0, .slice none 0 0, .slice none 0 0]) (by kernel_rfl) ?_⟩
  intro W2 z2 h2 b2
  simp only [Value.cells] at h2
  rw [z1] at h2 b2
  have HA2 := Lib.hid ((b2.block w.heap.size (by omega)).trans HA1.out)
  have bb2 : Below w.heap.size w W2 := b1.trans (b2.mono (by omega))
  clear hc2 HA1
  go_wp2_with (with_reducible refine stW 24 ?_)
  refine ⟨stRow rfl 24 (.tmp 4) (.tmp 28) rfl rfl h2 rfl (by kernel_rfl) rfl (by simp [Value.oneCell']) ?_⟩
  clear h2
  intro W3 z3 h3 g3
  obtain ⟨cQ, fQ⟩ := live h3
  have HQ3 := Lib.hid h3
  have HA3 := Lib.hid (keep g3 HA2.out (by omega))
  have bb3 : Below w.heap.size w W3 := bb2.grown g3 (by omega) (by simp)
  clear h3 HA2
  go_wp2_with (with_reducible refine stL 45 ?_)
  refine ⟨ldRow rfl 45 (.tmp 31) rfl rfl _ (hs.below hg bb3) Tryd.underlying45 rfl (by kernel_rfl) ?_⟩
  go_wp2_with (with_reducible refine stAl 45 ?_)
  have y3 : W3.heap.size = w.heap.size + 2 := by omega
  refine ⟨al rfl 45 rfl (z := .agg #[.bool false, .bool false, .bool false, .bool false, .bool false, .bool false]) (by kernel_rfl) ?_⟩
  intro W4 z4 h4 b4
  simp only [Value.cells] at h4
  rw [y3] at h4 b4
  have HA4 := Lib.hid ((b4.block w.heap.size (by omega)).trans HA3.out)
  have HQ4 := Lib.hid ((b4.block (w.heap.size + 1) (by omega)).trans HQ3.out)
  have bb4 : Below w.heap.size w W4 := bb3.trans (b4.mono (by omega))
  clear cQ fQ HA3 HQ3
  go_wp2_with (with_reducible refine stW 45 ?_)
  refine ⟨stRow rfl 45 (.tmp 5) (.tmp 32) rfl rfl h4 rfl (by kernel_rfl) rfl (by simp [Value.oneCell']) ?_⟩
  clear h4
  intro W5 z5 h5 g5
  have HA5 := Lib.hid (keep g5 HA4.out (by omega))
  have HQ5 := Lib.hid (keep g5 HQ4.out (by omega))
  have bb5 : Below w.heap.size w W5 := bb4.grown g5 (by omega) (by simp; omega)
  have HF5 := Lib.hid h5
  clear h5 HA4 HQ4
  go_wp2_with (with_reducible refine stS ?_)
  have hv5 : View W5 (.slice p m c) m 1 (bv (8 :: l)) := hv.below bb5
  refine ⟨slcL sk22 rfl (.tmp 33) (.const (.int .i64 1)) rfl (y := p) (n := m) (c := c) rfl hv5 1 rfl (by omega) ?_⟩
  intro p2 v2 o2
  go_wp2_with (with_reducible refine stB 53 ?_)
  have y5 : W5.heap.size = w.heap.size + 3 := by omega
  refine ⟨bx rfl 53 (.tmp 35) rfl (v := .agg #[.slice p2 (m - 1) (c - 1), .bool false]) rfl ?_⟩
  intro W6 z6 h6 b6
  simp only [Value.cells] at h6
  rw [y5] at h6 b6 z6
  have HA6 := Lib.hid ((b6.block w.heap.size (by omega)).trans HA5.out)
  have HQ6 := Lib.hid ((b6.block (w.heap.size + 1) (by omega)).trans HQ5.out)
  have HF6 := Lib.hid ((b6.block (w.heap.size + 2) (by omega)).trans HF5.out)
  have bb6 : Below w.heap.size w W6 := bb5.trans (b6.mono (by omega))
  have hl := hm'.out
  have hr6 : RdIs W6 (w.heap.size + 3) w.heap.size p2 (m - 1) (c - 1) false l :=
    ⟨h6, (by simpa [bv] using v2.below (by rw [y5]; exact b6)), by omega, fun k hk => hv.lt k (o2 k hk), by omega⟩
  have y6 : w.heap.size + 4 ≤ W6.heap.size := by omega
  clear v2 h6 HA5 HQ5 HF5 hv5 b6 z1 z2 z3 z4 z5 y3 b1 b2 b4 g3 g5 bb2 bb3 bb4 bb5 hl
  obtain ⟨cF, fF⟩ := live HF6.out
  go_wp2_with (first | (go_at_call 19; with_reducible refine stK ?_) | (go_at_call 20; with_reducible refine stK ?_) | (go_at_call 21; with_reducible refine stK ?_))
  refine ⟨(done_spec (w.heap.size + 3) w.heap.size _ _ _ _ _ _ hr6).mono ?_⟩
  rintro e W ⟨rfl, rfl⟩
  obtain ⟨cQ, fQ⟩ := live HQ6.out
  rw [show (!false && (l).isEmpty) = decD8 l from rfl]
  cases hD : decD8 l with
  | false =>
    go_wp2_with (with_reducible refine stW 24 ?_)
    refine ⟨stRow rfl 24 (.tmp 2) (.tmp 78) rfl rfl HA6.out rfl (by kernel_rfl) rfl (by simp [Value.oneCell']) ?_⟩
    intro W7 z7 h7 g7
    obtain ⟨cA, fA⟩ := live h7
    clear h7
    have bb7 : Below w.heap.size w W7 := bb6.grown g7 (by omega) (by simp)
    go_wp2
    refine bodyPost_ret (v := .tuple #[.agg #[.int .i64 0, .int .i64 0, .int .i64 0, .int .i64 0, .slice none 0 0, .slice none 0 0, .slice none 0 0], .int .i64 200]) (by simp [results, Tryd.results12, go_sem, cA]) rfl (.inl ⟨hD, rfl, bb7⟩)
  | true =>
    go_wp2_with (with_reducible refine stW 24 ?_)
    refine ⟨stRow rfl 24 (.tmp 2) (.tmp 79) rfl rfl HA6.out (c' := #[.int .i64 8, .int .i64 0, .int .i64 0, .int .i64 0, .slice none 0 0, .slice none 0 0, .slice none 0 0]) rfl (by kernel_rfl) rfl (by simp [Value.oneCell']) ?_⟩
    intro W7 z7 h7 g7
    obtain ⟨cA, fA⟩ := live h7
    clear h7
    have bb7 : Below w.heap.size w W7 := bb6.grown g7 (by omega) (by simp)
    go_wp2
    refine bodyPost_ret (v := .tuple #[.agg #[.int .i64 8, .int .i64 0, .int .i64 0, .int .i64 0, .slice none 0 0, .slice none 0 0, .slice none 0 0], .int .i64 0]) (by simp [results, Tryd.results12, go_sem, cA]) rfl (.inr ⟨hD, _, _, _, _, _, _, _, _, _, rfl, bb7, (VA.nil _ _), (VA.nil _ _), (VA.nil _ _)⟩)

/-- whether the bytes behind the kind 9 are just its fields -/
def decD9 (l : List UInt8) : Bool := (!false && (l).isEmpty)

set_option maxHeartbeats 2000000 in
set_option maxRecDepth 100000 in
theorem dec_9 (p : Option Addr) (m c : Nat) (l : List UInt8) (w : World) (hv : View w (.slice p m c) m 1 (bv (9 :: l))) (hm : m = l.length + 1) (hmax : m ≤ 12000)
    (hg : 2 < w.heap.size) (hs : Cells w 2 54 [.bool false, .bool false, .bool false, .bool false, .bool false, .bool false]) :
    Calls Tryd.prog 12 #[.slice p m c] w fun e w' => (decD9 l = false ∧ e = .returned (.tuple #[.agg #[.int .i64 0, .int .i64 0, .int .i64 0, .int .i64 0, .slice none 0 0, .slice none 0 0, .slice none 0 0], .int .i64 200]) ∧ Below w.heap.size w w') ∨
      (decD9 l = true ∧ ∃ pk nk ck ph nh ch pb nb cb, e = .returned (.tuple #[.agg #[.int .i64 9, .int .i64 0, .int .i64 0, .int .i64 0, .slice pk nk ck, .slice ph nh ch, .slice pb nb cb], .int .i64 0]) ∧ Below w.heap.size w w' ∧
        VA w' (.slice pk nk ck) nk [] w.heap.size ∧ VA w' (.slice ph nh ch) nh [] w.heap.size ∧ VA w' (.slice pb nb cb) nb [] w.heap.size) := by
  have q0 : ((m : Int) == 0) = false := by simp; omega
  have q1 : decide ((12000 : Int) < (m : Int)) = false := by simp; omega
  have q2 : 1 ≤ m := by omega
  have hcap : m ≤ c := by
    rcases hv.2 with ⟨he, h4, h5⟩ | ⟨b, off, cap, he, h4, h5, _⟩
    · simp [bv] at h5
    · simp only [Value.slice.injEq] at he; omega
  have hm' := Lib.hid hm
  clear hm
  go_enter Tryd.func12, Tryd.ntmps12
  go_wp2_with (with_reducible refine stAl 24 ?_)
  refine ⟨al rfl 24 rfl (z := .agg #[.int .i64 0, .int .i64 0, .int .i64 0, .int .i64 0, .slice none 0 0, .slice none 0 0, .slice none 0 0]) (by kernel_rfl) ?_⟩
  intro W1 z1 h1 b1
  simp only [Value.cells] at h1
  have HA1 := Lib.hid h1
  clear h1
  go_wp2_with (first | go_skip | (with_reducible refine stIg 22 ?_))
  refine ⟨idx sk22 rfl (.tmp 16) (.const (.int .i64 0)) rfl rfl (hv.below b1) rfl 0 rfl (by omega) ?_⟩
  intro b' off' hc' hb'
  have hc1 : W1.cell? ⟨b', off', none⟩ = some (.int .u8 9) := by
    have := hc' 0 (.int .u8 9) rfl
    simpa using this
  clear hc'
  go_wp2_with (first | go_skip | (go_at_call 15; go_in) | (with_reducible refine stIg 22 ?_))
  refine ⟨idx sk22 rfl (.tmp 24) (.const (.int .i64 0)) rfl rfl (hv.below b1) rfl 0 rfl (by omega) ?_⟩
  intro b'' off'' hc' hb''
  have hc2 : W1.cell? ⟨b'', off'', none⟩ = some (.int .u8 9) := by
    have := hc' 0 (.int .u8 9) rfl
    simpa using this
  clear hc' hc1 hb' hb''
  go_wp2_with (with_reducible refine stAl 24 ?_)
  refine ⟨al rfl 24 rfl (z := .agg #[.int .i64 0, .int .i64 0, .int .i64 0, .int .i64 0, .slice none 0 0, .slice none 0 0, .slice none 0 0]) (by kernel_rfl) ?_⟩
  intro W2 z2 h2 b2
  simp only [Value.cells] at h2
  rw [z1] at h2 b2
  have HA2 := Lib.hid ((b2.block w.heap.size (by omega)).trans HA1.out)
  have bb2 : Below w.heap.size w W2 := b1.trans (b2.mono (by omega))
  clear hc2 HA1
  go_wp2_with (with_reducible refine stW 24 ?_)
  refine ⟨stRow rfl 24 (.tmp 4) (.tmp 28) rfl rfl h2 rfl (by kernel_rfl) rfl (by simp [Value.oneCell']) ?_⟩
  clear h2
  intro W3 z3 h3 g3
  obtain ⟨cQ, fQ⟩ := live h3
  have HQ3 := Lib.hid h3
  have HA3 := Lib.hid (keep g3 HA2.out (by omega))
  have bb3 : Below w.heap.size w W3 := bb2.grown g3 (by omega) (by simp)
  clear h3 HA2
  go_wp2_with (with_reducible refine stL 45 ?_)
  refine ⟨ldRow rfl 45 (.tmp 31) rfl rfl _ (hs.below hg bb3) Tryd.underlying45 rfl (by kernel_rfl) ?_⟩
  go_wp2_with (with_reducible refine stAl 45 ?_)
  have y3 : W3.heap.size = w.heap.size + 2 := by omega
  refine ⟨al rfl 45 rfl (z := .agg #[.bool false, .bool false, .bool false, .bool false, .bool false, .bool false]) (by kernel_rfl) ?_⟩
  intro W4 z4 h4 b4
  simp only [Value.cells] at h4
  rw [y3] at h4 b4
  have HA4 := Lib.hid ((b4.block w.heap.size (by omega)).trans HA3.out)
  have HQ4 := Lib.hid ((b4.block (w.heap.size + 1) (by omega)).trans HQ3.out)
  have bb4 : Below w.heap.size w W4 := bb3.trans (b4.mono (by omega))
  clear cQ fQ HA3 HQ3
  go_wp2_with (with_reducible refine stW 45 ?_)
  refine ⟨stRow rfl 45 (.tmp 5) (.tmp 32) rfl rfl h4 rfl (by kernel_rfl) rfl (by simp [Value.oneCell']) ?_⟩
  clear h4
  intro W5 z5 h5 g5
  have HA5 := Lib.hid (keep g5 HA4.out (by omega))
  have HQ5 := Lib.hid (keep g5 HQ4.out (by omega))
  have bb5 : Below w.heap.size w W5 := bb4.grown g5 (by omega) (by simp; omega)
  have HF5 := Lib.hid h5
  clear h5 HA4 HQ4
  go_wp2_with (with_reducible refine stS ?_)
  have hv5 : View W5 (.slice p m c) m 1 (bv (9 :: l)) := hv.below bb5
  refine ⟨slcL sk22 rfl (.tmp 33) (.const (.int .i64 1)) rfl (y := p) (n := m) (c := c) rfl hv5 1 rfl (by omega) ?_⟩
  intro p2 v2 o2
  go_wp2_with (with_reducible refine stB 53 ?_)
  have y5 : W5.heap.size = w.heap.size + 3 := by omega
  refine ⟨bx rfl 53 (.tmp 35) rfl (v := .agg #[.slice p2 (m - 1) (c - 1), .bool false]) rfl ?_⟩
  intro W6 z6 h6 b6
  simp only [Value.cells] at h6
  rw [y5] at h6 b6 z6
  have HA6 := Lib.hid ((b6.block w.heap.size (by omega)).trans HA5.out)
  have HQ6 := Lib.hid ((b6.block (w.heap.size + 1) (by omega)).trans HQ5.out)
  have HF6 := Lib.hid ((b6.block (w.heap.size + 2) (by omega)).trans HF5.out)
  have bb6 : Below w.heap.size w W6 := bb5.trans (b6.mono (by omega))
  have hl := hm'.out
  have hr6 : RdIs W6 (w.heap.size + 3) w.heap.size p2 (m - 1) (c - 1) false l :=
    ⟨h6, (by simpa [bv] using v2.below (by rw [y5]; exact b6)), by omega, fun k hk => hv.lt k (o2 k hk), by omega⟩
  have y6 : w.heap.size + 4 ≤ W6.heap.size := by omega
  clear v2 h6 HA5 HQ5 HF5 hv5 b6 z1 z2 z3 z4 z5 y3 b1 b2 b4 g3 g5 bb2 bb3 bb4 bb5 hl
  obtain ⟨cF, fF⟩ := live HF6.out
  go_wp2_with (first | (go_at_call 19; with_reducible refine stK ?_) | (go_at_call 20; with_reducible refine stK ?_) | (go_at_call 21; with_reducible refine stK ?_))
  refine ⟨(done_spec (w.heap.size + 3) w.heap.size _ _ _ _ _ _ hr6).mono ?_⟩
  rintro e W ⟨rfl, rfl⟩
  obtain ⟨cQ, fQ⟩ := live HQ6.out
  rw [show (!false && (l).isEmpty) = decD9 l from rfl]
  cases hD : decD9 l with
  | false =>
    go_wp2_with (with_reducible refine stW 24 ?_)
    refine ⟨stRow rfl 24 (.tmp 2) (.tmp 78) rfl rfl HA6.out rfl (by kernel_rfl) rfl (by simp [Value.oneCell']) ?_⟩
    intro W7 z7 h7 g7
    obtain ⟨cA, fA⟩ := live h7
    clear h7
    have bb7 : Below w.heap.size w W7 := bb6.grown g7 (by omega) (by simp)
    go_wp2
    refine bodyPost_ret (v := .tuple #[.agg #[.int .i64 0, .int .i64 0, .int .i64 0, .int .i64 0, .slice none 0 0, .slice none 0 0, .slice none 0 0], .int .i64 200]) (by simp [results, Tryd.results12, go_sem, cA]) rfl (.inl ⟨hD, rfl, bb7⟩)
  | true =>
    go_wp2_with (with_reducible refine stW 24 ?_)
    refine ⟨stRow rfl 24 (.tmp 2) (.tmp 79) rfl rfl HA6.out (c' := #[.int .i64 9, .int .i64 0, .int .i64 0, .int .i64 0, .slice none 0 0, .slice none 0 0, .slice none 0 0]) rfl (by kernel_rfl) rfl (by simp [Value.oneCell']) ?_⟩
    intro W7 z7 h7 g7
    obtain ⟨cA, fA⟩ := live h7
    clear h7
    have bb7 : Below w.heap.size w W7 := bb6.grown g7 (by omega) (by simp)
    go_wp2
    refine bodyPost_ret (v := .tuple #[.agg #[.int .i64 9, .int .i64 0, .int .i64 0, .int .i64 0, .slice none 0 0, .slice none 0 0, .slice none 0 0], .int .i64 0]) (by simp [results, Tryd.results12, go_sem, cA]) rfl (.inr ⟨hD, _, _, _, _, _, _, _, _, _, rfl, bb7, (VA.nil _ _), (VA.nil _ _), (VA.nil _ _)⟩)

end Go.Proofs.YtmedbedpgbbdgaaDoor
