/- Walks: DecodeRequest and the document's Asked, all kinds together. Printed by gen_desk.py. -/
import Derived.Test.YtmedbedpgbbdgaaDoorDeskAll
import Derived.Test.YtmedbedpgbbdgaaDoorDeskDec
import Derived.Test.YtmedbedpgbbdgaaDoorDeskAsked
import Derived.Test.YtmedbedpgbbdgaaDoorDeskAskedNo
namespace Go.Proofs.YtmedbedpgbbdgaaDoor
open Go.RowKit
set_option linter.unusedVariables false

set_option maxHeartbeats 1000000 in
set_option maxRecDepth 100000 in
theorem dec_no_0 (p : Option Addr) (c : Nat) (w : World) : Calls Tryd.prog 12 #[.slice p 0 c] w fun e w' => e = .returned (.tuple #[.agg #[.int .i64 0, .int .i64 0, .int .i64 0, .int .i64 0, .slice none 0 0, .slice none 0 0, .slice none 0 0], .int .i64 200]) ∧ Below w.heap.size w w' := by
  go_enter Tryd.func12, Tryd.ntmps12
  go_wp2_with (with_reducible refine stAl 24 ?_)
  refine ⟨al rfl 24 rfl (z := .agg #[.int .i64 0, .int .i64 0, .int .i64 0, .int .i64 0, .slice none 0 0, .slice none 0 0, .slice none 0 0]) (by kernel_rfl) ?_⟩
  intro W1 z1 h1 b1
  simp only [Value.cells] at h1
  have HA1 := Lib.hid h1
  clear h1
  go_wp2_with (first | go_skip | (go_at_call 15; go_in) | (with_reducible refine stW 24 ?_))
  refine ⟨stRow rfl 24 (.tmp 2) (.tmp 23) rfl rfl HA1.out (c' := #[.int .i64 0, .int .i64 0, .int .i64 0, .int .i64 0, .slice none 0 0, .slice none 0 0, .slice none 0 0]) rfl (by kernel_rfl) rfl (by simp [Value.oneCell']) ?_⟩
  intro W3 z3 h3 g3
  obtain ⟨cA, fA⟩ := live h3
  have bb3 : Below w.heap.size w W3 := b1.grown g3 (by omega) (by simp)
  clear h3
  go_wp2
  exact bodyPost_ret (v := .tuple #[.agg #[.int .i64 0, .int .i64 0, .int .i64 0, .int .i64 0, .slice none 0 0, .slice none 0 0, .slice none 0 0], .int .i64 200]) (by simp [results, Tryd.results12, go_sem, cA]) rfl ⟨rfl, bb3⟩

set_option maxHeartbeats 1000000 in
set_option maxRecDepth 100000 in
theorem dec_no_m (p : Option Addr) (m c : Nat) (w : World) (h : 12000 < m) : Calls Tryd.prog 12 #[.slice p m c] w fun e w' => e = .returned (.tuple #[.agg #[.int .i64 0, .int .i64 0, .int .i64 0, .int .i64 0, .slice none 0 0, .slice none 0 0, .slice none 0 0], .int .i64 200]) ∧ Below w.heap.size w w' := by
  have q0 : ((m : Int) == 0) = false := by simp; omega
  have q1 : decide ((12000 : Int) < (m : Int)) = true := by simp; omega
  go_enter Tryd.func12, Tryd.ntmps12
  go_wp2_with (with_reducible refine stAl 24 ?_)
  refine ⟨al rfl 24 rfl (z := .agg #[.int .i64 0, .int .i64 0, .int .i64 0, .int .i64 0, .slice none 0 0, .slice none 0 0, .slice none 0 0]) (by kernel_rfl) ?_⟩
  intro W1 z1 h1 b1
  simp only [Value.cells] at h1
  have HA1 := Lib.hid h1
  clear h1
  go_wp2_with (first | go_skip | (go_at_call 15; go_in) | (with_reducible refine stW 24 ?_))
  refine ⟨stRow rfl 24 (.tmp 2) (.tmp 23) rfl rfl HA1.out (c' := #[.int .i64 0, .int .i64 0, .int .i64 0, .int .i64 0, .slice none 0 0, .slice none 0 0, .slice none 0 0]) rfl (by kernel_rfl) rfl (by simp [Value.oneCell']) ?_⟩
  intro W3 z3 h3 g3
  obtain ⟨cA, fA⟩ := live h3
  have bb3 : Below w.heap.size w W3 := b1.grown g3 (by omega) (by simp)
  clear h3
  go_wp2
  exact bodyPost_ret (v := .tuple #[.agg #[.int .i64 0, .int .i64 0, .int .i64 0, .int .i64 0, .slice none 0 0, .slice none 0 0, .slice none 0 0], .int .i64 200]) (by simp [results, Tryd.results12, go_sem, cA]) rfl ⟨rfl, bb3⟩

set_option maxHeartbeats 1000000 in
set_option maxRecDepth 100000 in
theorem dec_no_x (p : Option Addr) (m c : Nat) (x : UInt8) (l : List UInt8) (w : World) (hv : View w (.slice p m c) m 1 (bv (x :: l))) (h0 : 0 < m) (h1 : m ≤ 12000) (hx : x.toNat < 1) : Calls Tryd.prog 12 #[.slice p m c] w fun e w' => e = .returned (.tuple #[.agg #[.int .i64 0, .int .i64 0, .int .i64 0, .int .i64 0, .slice none 0 0, .slice none 0 0, .slice none 0 0], .int .i64 200]) ∧ Below w.heap.size w w' := by
  have q0 : ((m : Int) == 0) = false := by simp; omega
  have q1 : decide ((12000 : Int) < (m : Int)) = false := by simp; omega
  have hx8 := x.toNat_lt
  have r : decide (1 ≤ ((x.toNat : Nat) : Int)) = false := by simp; omega
  go_enter Tryd.func12, Tryd.ntmps12
  go_wp2_with (with_reducible refine stAl 24 ?_)
  refine ⟨al rfl 24 rfl (z := .agg #[.int .i64 0, .int .i64 0, .int .i64 0, .int .i64 0, .slice none 0 0, .slice none 0 0, .slice none 0 0]) (by kernel_rfl) ?_⟩
  intro W1 z1 h1 b1
  simp only [Value.cells] at h1
  have HA1 := Lib.hid h1
  clear h1
  go_wp2_with (first | go_skip | (with_reducible refine stIg 22 ?_))
  refine ⟨idx sk22 rfl (.tmp 16) (.const (.int .i64 0)) rfl rfl (hv.below b1) rfl 0 rfl (by omega) ?_⟩
  intro b' off' hc' hb'
  have hc1 : W1.cell? ⟨b', off', none⟩ = some (.int .u8 x.toNat) := by
    have := hc' 0 (.int .u8 x.toNat) rfl
    simpa using this
  clear hc' hb'
  go_wp2_with (first | go_skip | (go_at_call 15; go_in) | (with_reducible refine stW 24 ?_))
  refine ⟨stRow rfl 24 (.tmp 2) (.tmp 23) rfl rfl HA1.out (c' := #[.int .i64 0, .int .i64 0, .int .i64 0, .int .i64 0, .slice none 0 0, .slice none 0 0, .slice none 0 0]) rfl (by kernel_rfl) rfl (by simp [Value.oneCell']) ?_⟩
  intro W3 z3 h3 g3
  obtain ⟨cA, fA⟩ := live h3
  have bb3 : Below w.heap.size w W3 := b1.grown g3 (by omega) (by simp)
  clear h3
  go_wp2
  exact bodyPost_ret (v := .tuple #[.agg #[.int .i64 0, .int .i64 0, .int .i64 0, .int .i64 0, .slice none 0 0, .slice none 0 0, .slice none 0 0], .int .i64 200]) (by simp [results, Tryd.results12, go_sem, cA]) rfl ⟨rfl, bb3⟩

set_option maxHeartbeats 1000000 in
set_option maxRecDepth 100000 in
theorem dec_no_y (p : Option Addr) (m c : Nat) (x : UInt8) (l : List UInt8) (w : World) (hv : View w (.slice p m c) m 1 (bv (x :: l))) (h0 : 0 < m) (h1 : m ≤ 12000) (hx : 9 < x.toNat) : Calls Tryd.prog 12 #[.slice p m c] w fun e w' => e = .returned (.tuple #[.agg #[.int .i64 0, .int .i64 0, .int .i64 0, .int .i64 0, .slice none 0 0, .slice none 0 0, .slice none 0 0], .int .i64 200]) ∧ Below w.heap.size w w' := by
  have q0 : ((m : Int) == 0) = false := by simp; omega
  have q1 : decide ((12000 : Int) < (m : Int)) = false := by simp; omega
  have hx8 := x.toNat_lt
  have r : decide (((x.toNat : Nat) : Int) ≤ 9) = false := by simp; omega
  go_enter Tryd.func12, Tryd.ntmps12
  go_wp2_with (with_reducible refine stAl 24 ?_)
  refine ⟨al rfl 24 rfl (z := .agg #[.int .i64 0, .int .i64 0, .int .i64 0, .int .i64 0, .slice none 0 0, .slice none 0 0, .slice none 0 0]) (by kernel_rfl) ?_⟩
  intro W1 z1 h1 b1
  simp only [Value.cells] at h1
  have HA1 := Lib.hid h1
  clear h1
  go_wp2_with (first | go_skip | (with_reducible refine stIg 22 ?_))
  refine ⟨idx sk22 rfl (.tmp 16) (.const (.int .i64 0)) rfl rfl (hv.below b1) rfl 0 rfl (by omega) ?_⟩
  intro b' off' hc' hb'
  have hc1 : W1.cell? ⟨b', off', none⟩ = some (.int .u8 x.toNat) := by
    have := hc' 0 (.int .u8 x.toNat) rfl
    simpa using this
  clear hc' hb'
  go_wp2_with (first | go_skip | (go_at_call 15; go_in) | (with_reducible refine stW 24 ?_))
  refine ⟨stRow rfl 24 (.tmp 2) (.tmp 23) rfl rfl HA1.out (c' := #[.int .i64 0, .int .i64 0, .int .i64 0, .int .i64 0, .slice none 0 0, .slice none 0 0, .slice none 0 0]) rfl (by kernel_rfl) rfl (by simp [Value.oneCell']) ?_⟩
  intro W3 z3 h3 g3
  obtain ⟨cA, fA⟩ := live h3
  have bb3 : Below w.heap.size w W3 := b1.grown g3 (by omega) (by simp)
  clear h3
  go_wp2
  exact bodyPost_ret (v := .tuple #[.agg #[.int .i64 0, .int .i64 0, .int .i64 0, .int .i64 0, .slice none 0 0, .slice none 0 0, .slice none 0 0], .int .i64 200]) (by simp [results, Tryd.results12, go_sem, cA]) rfl ⟨rfl, bb3⟩

theorem done_step (s : Bool) (l : List UInt8) (n t : Nat) : (!(shortBy s l n) && decide ((leftBy s l n).length = t)) = (!s && decide (l.length = n + t)) := by
  cases s
  · by_cases h : l.length < n
    · simp [shortBy, leftBy, h]; omega
    · simp [shortBy, leftBy, h]
      by_cases h2 : l.length = n + t
      · simp [h2]
      · simp [h2]; omega
  · simp [shortBy]

theorem empty_len (l : List UInt8) : l.isEmpty = decide (l.length = 0) := by cases l <;> simp

theorem decD1_eq (l : List UInt8) : decD1 l = true := by simp [decD1, shortBy, leftBy]

theorem decD2_eq (l : List UInt8) : decD2 l = decide (l.length = 40) := by
  unfold decD2
  rw [empty_len, done_step, done_step]
  simp

theorem decD3_eq (l : List UInt8) : decD3 l = decide (l.length = 8) := by
  unfold decD3
  rw [empty_len, done_step]
  simp

theorem decD4_eq (l : List UInt8) : decD4 l = decide (l.length = 40) := by
  unfold decD4
  rw [empty_len, done_step, done_step]
  simp

theorem decD5_eq (l : List UInt8) : decD5 l = decide (l.length = 72) := by
  unfold decD5
  rw [empty_len, done_step, done_step, done_step]
  simp

theorem decD6_eq (l : List UInt8) : decD6 l = decide (l.length = 76) := by
  unfold decD6
  rw [empty_len, done_step, done_step, done_step, done_step]
  simp

theorem decD7_eq (l : List UInt8) : decD7 l = decide (l.length = 16) := by
  unfold decD7
  rw [empty_len, done_step, done_step]
  simp

theorem decD8_eq (l : List UInt8) : decD8 l = decide (l.length = 0) := by
  unfold decD8
  rw [empty_len]
  simp

theorem decD9_eq (l : List UInt8) : decD9 l = decide (l.length = 0) := by
  unfold decD9
  rw [empty_len]
  simp

set_option maxHeartbeats 1000000 in
theorem dec_all (p : Option Addr) (m c : Nat) (L : List UInt8) (w : World) (hv : View w (.slice p m c) m 1 (bv L)) (hl : L.length = m) (hg : 2 < w.heap.size) (hs : Cells w 2 0 shapeCells) :
    Calls Tryd.prog 12 #[.slice p m c] w fun e w' => (decS L = none ∧ e = .returned (.tuple #[.agg #[.int .i64 0, .int .i64 0, .int .i64 0, .int .i64 0, .slice none 0 0, .slice none 0 0, .slice none 0 0], .int .i64 200]) ∧ Below w.heap.size w w') ∨
      (∃ q pk nk ck ph nh ch pb nb cb, decS L = some q ∧ e = .returned (.tuple #[.agg #[.int .i64 q.op, .int .i64 q.ver, .int .i64 q.oth, .int .i64 q.lim, .slice pk nk ck, .slice ph nh ch, .slice pb nb cb], .int .i64 0]) ∧ Below w.heap.size w w' ∧
        VA w' (.slice pk nk ck) nk q.key w.heap.size ∧ VA w' (.slice ph nh ch) nh q.high w.heap.size ∧ VA w' (.slice pb nb cb) nb q.batch w.heap.size) := by
  cases L with
  | nil =>
    simp at hl
    subst hl
    refine (dec_no_0 p c w).mono ?_
    rintro e w' ⟨rfl, hw⟩
    exact .inl ⟨rfl, rfl, hw⟩
  | cons x l =>
    simp at hl
    by_cases hb : 12000 < m
    · refine (dec_no_m p m c w hb).mono ?_
      rintro e w' ⟨rfl, hw⟩
      exact .inl ⟨by simp [decS]; omega, rfl, hw⟩
    have hb' : ¬ 12000 < l.length + 1 := by omega
    by_cases h1 : x = 1
    · subst h1
      refine (dec_1 p m c l w hv (by omega) (by omega) hg (cells_sub hs 6 6)).mono ?_
      rintro e w' (⟨hD, rfl, hw⟩ | ⟨hD, pk, nk, ck, ph, nh, ch, pb, nb, cb, he, hw, vk, vh, vb⟩)
      · rw [decD1_eq] at hD; cases hD
      · have g1 : gives false l l.length = l := by simp [gives]
        rw [g1] at vb
        exact .inr ⟨⟨1, 0, 0, 0, [], [], l⟩, pk, nk, ck, ph, nh, ch, pb, nb, cb, by simp [decS, hb'], he, hw, vk, vh, vb⟩
    by_cases h2 : x = 2
    · subst h2
      refine (dec_2 p m c l w hv (by omega) (by omega) hg (cells_sub hs 12 6)).mono ?_
      rintro e w' (⟨hD, rfl, hw⟩ | ⟨hD, pk, nk, ck, ph, nh, ch, pb, nb, cb, he, hw, vk, vh, vb⟩)
      · rw [decD2_eq] at hD
        simp at hD
        exact .inl ⟨by simp [decS, hb', hD], rfl, hw⟩
      · rw [decD2_eq] at hD
        simp at hD
        have g1 : gives false (l) 32 = (l.take 32) := by simp [gives, hD]
        have g2 : gives (shortBy false (l) 32) ((leftBy false (l) 32)) 8 = ((l.drop 32).take 8) := by simp [gives, shortBy, leftBy, hD]
        rw [g1] at vk
        rw [g2] at he
        exact .inr ⟨⟨2, wrap64 (numLE ((l.drop 32).take 8)), 0, 0, (l.take 32), [], []⟩, pk, nk, ck, ph, nh, ch, pb, nb, cb, by simp [decS, hD], he, hw, vk, vh, vb⟩
    by_cases h3 : x = 3
    · subst h3
      refine (dec_3 p m c l w hv (by omega) (by omega) hg (cells_sub hs 18 6)).mono ?_
      rintro e w' (⟨hD, rfl, hw⟩ | ⟨hD, pk, nk, ck, ph, nh, ch, pb, nb, cb, he, hw, vk, vh, vb⟩)
      · rw [decD3_eq] at hD
        simp at hD
        exact .inl ⟨by simp [decS, hb', hD], rfl, hw⟩
      · rw [decD3_eq] at hD
        simp at hD
        have g1 : gives false (l) 8 = (l.take 8) := by simp [gives, hD]
        rw [g1] at he
        exact .inr ⟨⟨3, wrap64 (numLE (l.take 8)), 0, 0, [], [], []⟩, pk, nk, ck, ph, nh, ch, pb, nb, cb, by simp [decS, hD], he, hw, vk, vh, vb⟩
    by_cases h4 : x = 4
    · subst h4
      refine (dec_4 p m c l w hv (by omega) (by omega) hg (cells_sub hs 24 6)).mono ?_
      rintro e w' (⟨hD, rfl, hw⟩ | ⟨hD, pk, nk, ck, ph, nh, ch, pb, nb, cb, he, hw, vk, vh, vb⟩)
      · rw [decD4_eq] at hD
        simp at hD
        exact .inl ⟨by simp [decS, hb', hD], rfl, hw⟩
      · rw [decD4_eq] at hD
        simp at hD
        have g1 : gives false (l) 32 = (l.take 32) := by simp [gives, hD]
        have g2 : gives (shortBy false (l) 32) ((leftBy false (l) 32)) 8 = ((l.drop 32).take 8) := by simp [gives, shortBy, leftBy, hD]
        rw [g1] at vk
        rw [g2] at he
        exact .inr ⟨⟨4, wrap64 (numLE ((l.drop 32).take 8)), 0, 0, (l.take 32), [], []⟩, pk, nk, ck, ph, nh, ch, pb, nb, cb, by simp [decS, hD], he, hw, vk, vh, vb⟩
    by_cases h5 : x = 5
    · subst h5
      refine (dec_5 p m c l w hv (by omega) (by omega) hg (cells_sub hs 30 6)).mono ?_
      rintro e w' (⟨hD, rfl, hw⟩ | ⟨hD, pk, nk, ck, ph, nh, ch, pb, nb, cb, he, hw, vk, vh, vb⟩)
      · rw [decD5_eq] at hD
        simp at hD
        exact .inl ⟨by simp [decS, hb', hD], rfl, hw⟩
      · rw [decD5_eq] at hD
        simp at hD
        have g1 : gives false (l) 32 = (l.take 32) := by simp [gives, hD]
        have g2 : gives (shortBy false (l) 32) ((leftBy false (l) 32)) 32 = ((l.drop 32).take 32) := by simp [gives, shortBy, leftBy, hD]
        have g3 : gives (shortBy (shortBy false (l) 32) ((leftBy false (l) 32)) 32) ((leftBy (shortBy false (l) 32) ((leftBy false (l) 32)) 32)) 8 = ((l.drop 64).take 8) := by simp [gives, shortBy, leftBy, hD]
        rw [g1] at vk
        rw [g2] at vh
        rw [g3] at he
        exact .inr ⟨⟨5, wrap64 (numLE ((l.drop 64).take 8)), 0, 0, (l.take 32), ((l.drop 32).take 32), []⟩, pk, nk, ck, ph, nh, ch, pb, nb, cb, by simp [decS, hD], he, hw, vk, vh, vb⟩
    by_cases h6 : x = 6
    · subst h6
      refine (dec_6 p m c l w hv (by omega) (by omega) hg (cells_sub hs 36 6)).mono ?_
      rintro e w' (⟨hD, rfl, hw⟩ | ⟨hD, pk, nk, ck, ph, nh, ch, pb, nb, cb, he, hw, vk, vh, vb⟩)
      · rw [decD6_eq] at hD
        simp at hD
        exact .inl ⟨by simp [decS, hb', hD], rfl, hw⟩
      · rw [decD6_eq] at hD
        simp at hD
        have g1 : gives false (l) 32 = (l.take 32) := by simp [gives, hD]
        have g2 : gives (shortBy false (l) 32) ((leftBy false (l) 32)) 32 = ((l.drop 32).take 32) := by simp [gives, shortBy, leftBy, hD]
        have g3 : gives (shortBy (shortBy false (l) 32) ((leftBy false (l) 32)) 32) ((leftBy (shortBy false (l) 32) ((leftBy false (l) 32)) 32)) 8 = ((l.drop 64).take 8) := by simp [gives, shortBy, leftBy, hD]
        have g4 : gives (shortBy (shortBy (shortBy false (l) 32) ((leftBy false (l) 32)) 32) ((leftBy (shortBy false (l) 32) ((leftBy false (l) 32)) 32)) 8) ((leftBy (shortBy (shortBy false (l) 32) ((leftBy false (l) 32)) 32) ((leftBy (shortBy false (l) 32) ((leftBy false (l) 32)) 32)) 8)) 4 = ((l.drop 72).take 4) := by simp [gives, shortBy, leftBy, hD]
        rw [g1] at vk
        rw [g2] at vh
        rw [g3] at he
        rw [g4] at he
        exact .inr ⟨⟨6, wrap64 (numLE ((l.drop 64).take 8)), 0, wrap64 (numLE ((l.drop 72).take 4)), (l.take 32), ((l.drop 32).take 32), []⟩, pk, nk, ck, ph, nh, ch, pb, nb, cb, by simp [decS, hD], he, hw, vk, vh, vb⟩
    by_cases h7 : x = 7
    · subst h7
      refine (dec_7 p m c l w hv (by omega) (by omega) hg (cells_sub hs 42 6)).mono ?_
      rintro e w' (⟨hD, rfl, hw⟩ | ⟨hD, pk, nk, ck, ph, nh, ch, pb, nb, cb, he, hw, vk, vh, vb⟩)
      · rw [decD7_eq] at hD
        simp at hD
        exact .inl ⟨by simp [decS, hb', hD], rfl, hw⟩
      · rw [decD7_eq] at hD
        simp at hD
        have g1 : gives false (l) 8 = (l.take 8) := by simp [gives, hD]
        have g2 : gives (shortBy false (l) 8) ((leftBy false (l) 8)) 8 = ((l.drop 8).take 8) := by simp [gives, shortBy, leftBy, hD]
        rw [g1] at he
        rw [g2] at he
        exact .inr ⟨⟨7, wrap64 (numLE (l.take 8)), wrap64 (numLE ((l.drop 8).take 8)), 0, [], [], []⟩, pk, nk, ck, ph, nh, ch, pb, nb, cb, by simp [decS, hD], he, hw, vk, vh, vb⟩
    by_cases h8 : x = 8
    · subst h8
      refine (dec_8 p m c l w hv (by omega) (by omega) hg (cells_sub hs 48 6)).mono ?_
      rintro e w' (⟨hD, rfl, hw⟩ | ⟨hD, pk, nk, ck, ph, nh, ch, pb, nb, cb, he, hw, vk, vh, vb⟩)
      · rw [decD8_eq] at hD
        simp at hD
        exact .inl ⟨by simp [decS, hb', hD], rfl, hw⟩
      · rw [decD8_eq] at hD
        simp at hD
        exact .inr ⟨⟨8, 0, 0, 0, [], [], []⟩, pk, nk, ck, ph, nh, ch, pb, nb, cb, by simp [decS, hD], he, hw, vk, vh, vb⟩
    by_cases h9 : x = 9
    · subst h9
      refine (dec_9 p m c l w hv (by omega) (by omega) hg (cells_sub hs 54 6)).mono ?_
      rintro e w' (⟨hD, rfl, hw⟩ | ⟨hD, pk, nk, ck, ph, nh, ch, pb, nb, cb, he, hw, vk, vh, vb⟩)
      · rw [decD9_eq] at hD
        simp at hD
        exact .inl ⟨by simp [decS, hb', hD], rfl, hw⟩
      · rw [decD9_eq] at hD
        simp at hD
        exact .inr ⟨⟨9, 0, 0, 0, [], [], []⟩, pk, nk, ck, ph, nh, ch, pb, nb, cb, by simp [decS, hD], he, hw, vk, vh, vb⟩
    have hx : x.toNat < 1 ∨ 9 < x.toNat := by
      have n1 : x.toNat ≠ 1 := fun h => h1 (UInt8.toNat_inj.1 h)
      have n2 : x.toNat ≠ 2 := fun h => h2 (UInt8.toNat_inj.1 h)
      have n3 : x.toNat ≠ 3 := fun h => h3 (UInt8.toNat_inj.1 h)
      have n4 : x.toNat ≠ 4 := fun h => h4 (UInt8.toNat_inj.1 h)
      have n5 : x.toNat ≠ 5 := fun h => h5 (UInt8.toNat_inj.1 h)
      have n6 : x.toNat ≠ 6 := fun h => h6 (UInt8.toNat_inj.1 h)
      have n7 : x.toNat ≠ 7 := fun h => h7 (UInt8.toNat_inj.1 h)
      have n8 : x.toNat ≠ 8 := fun h => h8 (UInt8.toNat_inj.1 h)
      have n9 : x.toNat ≠ 9 := fun h => h9 (UInt8.toNat_inj.1 h)
      omega
    rcases hx with hx | hx
    · refine (dec_no_x p m c x l w hv (by omega) (by omega) hx).mono ?_
      rintro e w' ⟨rfl, hw⟩
      exact .inl ⟨by simp [decS, hb', h1, h2, h3, h4, h5, h6, h7, h8, h9], rfl, hw⟩
    · refine (dec_no_y p m c x l w hv (by omega) (by omega) hx).mono ?_
      rintro e w' ⟨rfl, hw⟩
      exact .inl ⟨by simp [decS, hb', h1, h2, h3, h4, h5, h6, h7, h8, h9], rfl, hw⟩

set_option maxHeartbeats 1000000 in
theorem asked_all (p : Option Addr) (m c : Nat) (L : List UInt8) (w : World) (hv : View w (.slice p m c) m 1 (bv L)) (hl : L.length = m) :
    Calls Tryd.prog 13 #[.slice p m c] w fun e w' => (decS L = none ∧ e = .returned (.tuple #[.agg #[.int .i64 0, .int .i64 0, .int .i64 0, .int .i64 0, .slice none 0 0, .slice none 0 0, .slice none 0 0], .int .i64 200]) ∧ Below w.heap.size w w') ∨
      (∃ q pk nk ck ph nh ch pb nb cb, decS L = some q ∧ e = .returned (.tuple #[.agg #[.int .i64 q.op, .int .i64 q.ver, .int .i64 q.oth, .int .i64 q.lim, .slice pk nk ck, .slice ph nh ch, .slice pb nb cb], .int .i64 0]) ∧ Below w.heap.size w w' ∧
        VA w' (.slice pk nk ck) nk q.key w.heap.size ∧ VA w' (.slice ph nh ch) nh q.high w.heap.size ∧ VA w' (.slice pb nb cb) nb q.batch w.heap.size) := by
  cases L with
  | nil =>
    simp at hl
    subst hl
    refine (asked_no_0 p c w).mono ?_
    rintro e w' ⟨rfl, hw⟩
    exact .inl ⟨rfl, rfl, hw⟩
  | cons x l =>
    simp at hl
    by_cases hb : 12000 < m
    · refine (asked_no_m p m c w hb).mono ?_
      rintro e w' ⟨rfl, hw⟩
      exact .inl ⟨by simp [decS]; omega, rfl, hw⟩
    have hb' : ¬ 12000 < l.length + 1 := by omega
    by_cases h1 : x = 1
    · subst h1
      refine (asked_1 p m c l w hv (by omega) (by omega)).mono ?_
      rintro e w' ⟨pk, nk, ck, ph, nh, ch, pb, nb, cb, he, hw, vk, vh, vb⟩
      have g1 : (((1 :: l : List UInt8).drop 1).take l.length) = l := by simp
      rw [g1] at vb
      exact .inr ⟨⟨1, 0, 0, 0, [], [], l⟩, pk, nk, ck, ph, nh, ch, pb, nb, cb, by simp [decS, hb'], he, hw, vk, vh, vb⟩
    by_cases h2 : x = 2
    · subst h2
      by_cases hT : l.length = 40
      · obtain rfl : m = 41 := by omega
        refine (asked_2 p c l w hv (by omega)).mono ?_
        rintro e w' ⟨pk, nk, ck, ph, nh, ch, pb, nb, cb, he, hw, vk, vh, vb⟩
        exact .inr ⟨⟨2, wrap64 (numLE ((l.drop 32).take 8)), 0, 0, (l.take 32), [], []⟩, pk, nk, ck, ph, nh, ch, pb, nb, cb, by simp [decS, hT], he, hw, vk, vh, vb⟩
      · refine (asked_no_2 p m c l w hv (by omega) (by omega) (by omega)).mono ?_
        rintro e w' ⟨rfl, hw⟩
        exact .inl ⟨by simp [decS, hb', hT], rfl, hw⟩
    by_cases h3 : x = 3
    · subst h3
      by_cases hT : l.length = 8
      · obtain rfl : m = 9 := by omega
        refine (asked_3 p c l w hv (by omega)).mono ?_
        rintro e w' ⟨pk, nk, ck, ph, nh, ch, pb, nb, cb, he, hw, vk, vh, vb⟩
        exact .inr ⟨⟨3, wrap64 (numLE (l.take 8)), 0, 0, [], [], []⟩, pk, nk, ck, ph, nh, ch, pb, nb, cb, by simp [decS, hT], he, hw, vk, vh, vb⟩
      · refine (asked_no_3 p m c l w hv (by omega) (by omega) (by omega)).mono ?_
        rintro e w' ⟨rfl, hw⟩
        exact .inl ⟨by simp [decS, hb', hT], rfl, hw⟩
    by_cases h4 : x = 4
    · subst h4
      by_cases hT : l.length = 40
      · obtain rfl : m = 41 := by omega
        refine (asked_4 p c l w hv (by omega)).mono ?_
        rintro e w' ⟨pk, nk, ck, ph, nh, ch, pb, nb, cb, he, hw, vk, vh, vb⟩
        exact .inr ⟨⟨4, wrap64 (numLE ((l.drop 32).take 8)), 0, 0, (l.take 32), [], []⟩, pk, nk, ck, ph, nh, ch, pb, nb, cb, by simp [decS, hT], he, hw, vk, vh, vb⟩
      · refine (asked_no_4 p m c l w hv (by omega) (by omega) (by omega)).mono ?_
        rintro e w' ⟨rfl, hw⟩
        exact .inl ⟨by simp [decS, hb', hT], rfl, hw⟩
    by_cases h5 : x = 5
    · subst h5
      by_cases hT : l.length = 72
      · obtain rfl : m = 73 := by omega
        refine (asked_5 p c l w hv (by omega)).mono ?_
        rintro e w' ⟨pk, nk, ck, ph, nh, ch, pb, nb, cb, he, hw, vk, vh, vb⟩
        exact .inr ⟨⟨5, wrap64 (numLE ((l.drop 64).take 8)), 0, 0, (l.take 32), ((l.drop 32).take 32), []⟩, pk, nk, ck, ph, nh, ch, pb, nb, cb, by simp [decS, hT], he, hw, vk, vh, vb⟩
      · refine (asked_no_5 p m c l w hv (by omega) (by omega) (by omega)).mono ?_
        rintro e w' ⟨rfl, hw⟩
        exact .inl ⟨by simp [decS, hb', hT], rfl, hw⟩
    by_cases h6 : x = 6
    · subst h6
      by_cases hT : l.length = 76
      · obtain rfl : m = 77 := by omega
        refine (asked_6 p c l w hv (by omega)).mono ?_
        rintro e w' ⟨pk, nk, ck, ph, nh, ch, pb, nb, cb, he, hw, vk, vh, vb⟩
        exact .inr ⟨⟨6, wrap64 (numLE ((l.drop 64).take 8)), 0, wrap64 (numLE ((l.drop 72).take 4)), (l.take 32), ((l.drop 32).take 32), []⟩, pk, nk, ck, ph, nh, ch, pb, nb, cb, by simp [decS, hT], he, hw, vk, vh, vb⟩
      · refine (asked_no_6 p m c l w hv (by omega) (by omega) (by omega)).mono ?_
        rintro e w' ⟨rfl, hw⟩
        exact .inl ⟨by simp [decS, hb', hT], rfl, hw⟩
    by_cases h7 : x = 7
    · subst h7
      by_cases hT : l.length = 16
      · obtain rfl : m = 17 := by omega
        refine (asked_7 p c l w hv (by omega)).mono ?_
        rintro e w' ⟨pk, nk, ck, ph, nh, ch, pb, nb, cb, he, hw, vk, vh, vb⟩
        exact .inr ⟨⟨7, wrap64 (numLE (l.take 8)), wrap64 (numLE ((l.drop 8).take 8)), 0, [], [], []⟩, pk, nk, ck, ph, nh, ch, pb, nb, cb, by simp [decS, hT], he, hw, vk, vh, vb⟩
      · refine (asked_no_7 p m c l w hv (by omega) (by omega) (by omega)).mono ?_
        rintro e w' ⟨rfl, hw⟩
        exact .inl ⟨by simp [decS, hb', hT], rfl, hw⟩
    by_cases h8 : x = 8
    · subst h8
      by_cases hT : l.length = 0
      · obtain rfl : m = 1 := by omega
        refine (asked_8 p c l w hv (by omega)).mono ?_
        rintro e w' ⟨pk, nk, ck, ph, nh, ch, pb, nb, cb, he, hw, vk, vh, vb⟩
        exact .inr ⟨⟨8, 0, 0, 0, [], [], []⟩, pk, nk, ck, ph, nh, ch, pb, nb, cb, by simp [decS, hT], he, hw, vk, vh, vb⟩
      · refine (asked_no_8 p m c l w hv (by omega) (by omega) (by omega)).mono ?_
        rintro e w' ⟨rfl, hw⟩
        exact .inl ⟨by simp [decS, hb', hT], rfl, hw⟩
    by_cases h9 : x = 9
    · subst h9
      by_cases hT : l.length = 0
      · obtain rfl : m = 1 := by omega
        refine (asked_9 p c l w hv (by omega)).mono ?_
        rintro e w' ⟨pk, nk, ck, ph, nh, ch, pb, nb, cb, he, hw, vk, vh, vb⟩
        exact .inr ⟨⟨9, 0, 0, 0, [], [], []⟩, pk, nk, ck, ph, nh, ch, pb, nb, cb, by simp [decS, hT], he, hw, vk, vh, vb⟩
      · refine (asked_no_9 p m c l w hv (by omega) (by omega) (by omega)).mono ?_
        rintro e w' ⟨rfl, hw⟩
        exact .inl ⟨by simp [decS, hb', hT], rfl, hw⟩
    have hx : x.toNat < 1 ∨ 9 < x.toNat := by
      have n1 : x.toNat ≠ 1 := fun h => h1 (UInt8.toNat_inj.1 h)
      have n2 : x.toNat ≠ 2 := fun h => h2 (UInt8.toNat_inj.1 h)
      have n3 : x.toNat ≠ 3 := fun h => h3 (UInt8.toNat_inj.1 h)
      have n4 : x.toNat ≠ 4 := fun h => h4 (UInt8.toNat_inj.1 h)
      have n5 : x.toNat ≠ 5 := fun h => h5 (UInt8.toNat_inj.1 h)
      have n6 : x.toNat ≠ 6 := fun h => h6 (UInt8.toNat_inj.1 h)
      have n7 : x.toNat ≠ 7 := fun h => h7 (UInt8.toNat_inj.1 h)
      have n8 : x.toNat ≠ 8 := fun h => h8 (UInt8.toNat_inj.1 h)
      have n9 : x.toNat ≠ 9 := fun h => h9 (UInt8.toNat_inj.1 h)
      omega
    refine (asked_no_x p m c x l w hv (by omega) (by omega) hx).mono ?_
    rintro e w' ⟨rfl, hw⟩
    exact .inl ⟨by simp [decS, hb', h1, h2, h3, h4, h5, h6, h7, h8, h9], rfl, hw⟩

end Go.Proofs.YtmedbedpgbbdgaaDoor
