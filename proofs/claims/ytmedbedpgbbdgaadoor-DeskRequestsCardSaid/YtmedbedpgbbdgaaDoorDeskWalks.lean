/- Walks through the small functions of the desk's statements: what each computes. -/
import Derived.Test.YtmedbedpgbbdgaaDoorLib
import Derived.Lib.Hide
namespace Go.Proofs.YtmedbedpgbbdgaaDoor
open Go.RowKit
set_option linter.unusedVariables false

theorem sk22 : SK Tryd.prog 22 5 1 1 (.int .u8 0) := SK.mk' Tryd.underlying22 (by kernel_rfl) rfl (by decide)

theorem byte_lit (w : World) (a b : UInt8) : View (w.alloc (.cells #[.int .u8 a.toNat, .int .u8 b.toNat] 5)) (.slice (some ⟨w.heap.size, 0, none⟩) 2 2) 2 1 (bv [a, b]) := View.lit (size := 1) rfl (by decide)
theorem byte_lit1 (w : World) (a : UInt8) : View (w.alloc (.cells #[.int .u8 a.toNat] 5)) (.slice (some ⟨w.heap.size, 0, none⟩) 1 1) 1 1 (bv [a]) := View.lit (size := 1) rfl (by decide)

set_option maxHeartbeats 400000 in
theorem roomy_spec (p : Option Addr) (n c : Nat) (l : List UInt8) (w : World) (hv : View w (.slice p n c) n 1 (bv l)) (hn : n + 2 ≤ 140737488355328) :
    Calls Tryd.prog 6 #[.slice p n c] w fun e w' => ∃ p' c', e = .returned (.slice p' n c') ∧ Below w.heap.size w w' ∧ w'.ownsRow w.heap.size 5 1 (.slice p' (n + 2) c') (n + 2) (bv (l.take n ++ [165, 90])) := by
  go_enter Tryd.func6, Tryd.ntmps6
  go_wp2_with (first | (with_reducible refine stA ?_) | (with_reducible refine stS ?_))
  refine ⟨appB sk22 rfl (.tmp 4) (.tmp 5) rfl w.heap.size (v := .slice (some ⟨w.heap.size, 0, none⟩) 0 0) (xs := []) rfl rfl (World.ownsRow_made w #[] 0 (Nat.le_refl _) (by decide) rfl) (hv.alloc _) (by simp) n (by simp) (by omega) (l.take n) rfl ?_⟩
  intro p1 c1 w1 ho1 hg1
  go_wp2_with (first | (with_reducible refine stA ?_) | (with_reducible refine stS ?_))
  have hs1 := hg1.by_.size
  simp at hs1
  refine ⟨appB sk22 rfl (.tmp 6) (.tmp 7) rfl w.heap.size (v := .slice p1 n c1) (y := .slice (some ⟨w1.heap.size, 0, none⟩) 2 2) (ys := [165, 90]) rfl rfl (ho1.alloc _) (byte_lit w1 165 90) (by simp; omega) (n + 2) rfl (by omega) (l.take n ++ [165, 90]) rfl ?_⟩
  intro p2 c2 w2 ho2 hg2
  go_wp2_with (first | (with_reducible refine stA ?_) | (with_reducible refine stS ?_))
  have hc := (own_cap ho2).2
  refine ⟨slcH sk22 rfl (.tmp 9) (.tmp 11) rfl (y := p2) (n := n + 2) (c := c2) rfl n rfl (by omega) ?_⟩
  go_wp2
  go_ret
  have hb1 := below_own (e := 5) (size := 1) ((Below.refl w.heap.size w).alloc (Nat.le_refl _) _) hg1 (World.ownsRow_made w #[] 0 (Nat.le_refl _) (by decide) rfl) (by simp)
  exact ⟨p2, c2, rfl, below_own (hb1.alloc (by omega) _) hg2 (ho1.alloc _) (by simp; omega), ho2⟩

theorem same_spec (p q : Option Addr) (n c m d : Nat) (l r : List UInt8) (w : World) (hp : View w (.slice p n c) n 1 (bv l)) (hq : View w (.slice q m d) m 1 (bv r)) :
    Calls Tryd.prog 9 #[.slice p n c, .slice q m d] w fun e w' => e = .returned (.bool (l.take n == r.take m)) ∧ w = w' := by
  go_enter Tryd.func9, Tryd.ntmps9
  go_wp2_with (first | (with_reducible refine stC 22 ?_))
  refine ⟨str sk22 Tryd.underlying5 Tryd.underlying9 rfl (.tmp 5) rfl rfl hp ?_⟩
  go_wp2_with (first | (with_reducible refine stC 22 ?_))
  refine ⟨str sk22 Tryd.underlying5 Tryd.underlying9 rfl (.tmp 7) rfl rfl hq ?_⟩
  go_wp2
  go_ret
  exact ⟨by simp, rfl⟩

/-- the lowest n bytes of a number, the lowest first -/
def lowZ (x : Int) : Nat → List UInt8
  | 0 => []
  | n + 1 => UInt8.ofNat (x % 256).toNat :: lowZ (x / 256) n

theorem lowZ_length (n : Nat) : ∀ x, (lowZ x n).length = n := by
  induction n with
  | zero => intro x; rfl
  | succ n ih => intro x; simp [lowZ, ih]

theorem lowZ_step {ys : List UInt8} {xk : Int} {n k : Nat} {r : List UInt8} (h : ys ++ lowZ xk (n - k) = r) (hk : k < n) : (ys ++ [UInt8.ofNat (xk % 256).toNat]) ++ lowZ (xk / 256) (n - (k + 1)) = r := by
  rw [show n - k = (n - (k + 1)) + 1 from by omega] at h
  rw [← h]
  simp [lowZ]

set_option maxHeartbeats 400000 in
theorem low_spec (v : Value) (n0 : Nat) (l : List UInt8) (base : Nat) (x : Int) (n : Nat) (w : World) (hx0 : 0 ≤ x) (hx1 : x ≤ 18446744073709551615) (hv : w.ownsRow base 5 1 v n0 (bv l)) (hB : base ≤ w.heap.size) (hn : n0 + n ≤ 140737488355328) :
    Calls Tryd.prog 16 #[v, .int .u64 x, .int .i64 n] w fun e w' => ∃ p c, e = .returned (.slice p (n0 + n) c) ∧ Grew w w' v (.slice p (n0 + n) c) ∧ w'.ownsRow base 5 1 (.slice p (n0 + n) c) (n0 + n) (bv (l ++ lowZ x n)) := by
  go_enter Tryd.func16, Tryd.ntmps16
  go_wp2_with (first | (with_reducible refine stA ?_))
  go_loopw [0, 1, 8] (fun v' y i wr => ∃ (k : Nat) (xk : Int) (ys : List UInt8), k ≤ n ∧ i = .int .i64 k ∧ y = .int .u64 xk ∧ 0 ≤ xk ∧ xk ≤ 18446744073709551615 ∧ wr.ownsRow base 5 1 v' (n0 + k) (bv (l ++ ys)) ∧ Grew w wr v v' ∧ Hid (ys ++ lowZ xk (n - k) = lowZ x n)) (fun _ _ i _ => n - (intOf i).toNat)
  case atStart => exact ⟨0, x, [], by omega, rfl, rfl, hx0, hx1, by simpa using hv, Grew.refl _ _, rfl⟩
  case round =>
    obtain ⟨k, xk, ys, hk, rfl, rfl, h1, h2, ho, hg, hH⟩ := hrel
    have hs := hg.by_.size
    go_wp2_with (first | (with_reducible refine stA ?_))
    · refine ⟨appB sk22 rfl (.tmp 10) (.tmp 13) rfl base (v := u0) rfl rfl (ho.alloc _) (View.byte1 (by omega) (by omega)) (by simp; omega) (n0 + (k + 1)) (by omega) (by omega) (l ++ (ys ++ [UInt8.ofNat (xk % 256).toNat])) (by simp) ?_⟩
      intro p c w1 ho1 hg1
      have hkn : k < n := by assumption
      have HR : Hid ((ys ++ [UInt8.ofNat (xk % 256).toNat]) ++ lowZ (xk / 256) (n - (k + 1)) = lowZ x n) := lowZ_step hH hkn
      go_wp2
      go_roundw
      case rel => exact ⟨k + 1, xk / 256, _, by omega, by go_num, rfl, by omega, by omega, ho1, hg.trans hg1.alloc, HR⟩
      case measure => simp [intOf]; omega
    · have hkn : k = n := by omega
      subst hkn
      have h := hH.out
      simp only [Nat.sub_self, lowZ, List.append_nil] at h
      subst h
      obtain ⟨p, c, rfl⟩ : ∃ p c, u0 = .slice p (n0 + k) c := by
        rcases ho.2 with ⟨rfl, h2⟩ | ⟨g, cap, cur, rfl, _⟩
        · exact ⟨none, 0, by rw [h2]⟩
        · exact ⟨_, _, rfl⟩
      go_ret
      exact ⟨p, c, rfl, hg, ho⟩

/-- A reader in block b: what is left, and whether something was missing. -/
def RdIs (w : World) (b lo : Nat) (p : Option Addr) (m c : Nat) (s : Bool) (l : List UInt8) : Prop :=
  w.heap[b]? = some (.cells #[.slice p m c, .bool s] 53 (0, 0)) ∧ View w (.slice p m c) m 1 (bv l) ∧ l.length = m ∧ (∀ k, (Value.slice p m c).ownBlock = some k → k < lo) ∧ lo ≤ b

set_option maxHeartbeats 400000 in
theorem take_ok (b lo : Nat) (p : Option Addr) (m c : Nat) (l : List UInt8) (n : Nat) (w : World) (hr : RdIs w b lo p m c false l) (hn : n ≤ m) :
    Calls Tryd.prog 26 #[.pointer (some ⟨b, 0, none⟩), .int .i64 n] w fun e w' => ∃ p', e = .returned (.slice p n n) ∧ RdIs w' b lo p' (m - n) (c - n) false (l.drop n) ∧ w.grownBy w' (some b) ∧ View w' (.slice p n n) n 1 (bv (l.take n)) := by
  obtain ⟨h1, h2, h3, h5', hlo⟩ := hr
  have h4 : ∀ k, (Value.slice p m c).ownBlock = some k → k ≠ b := fun k hk => by have := h5' k hk; omega
  have c0 := cell_of_block (j := 0) h1 rfl
  have c1 := cell_of_block (j := 1) h1 rfl
  have f0 := frozen_of_block (j := 0) h1
  have f1 := frozen_of_block (j := 1) h1
  have H1 := Lib.hid h1
  clear h1
  have hmn : decide (m < n) = false := by simpa using hn
  go_enter Tryd.func26, Tryd.ntmps26
  go_wp2_with (first | (with_reducible refine stS ?_))
  have hcm : m ≤ c := by
    rcases h2.2 with ⟨he, q1, q2⟩ | ⟨b', off, cap, he, _, q2, _⟩
    · simp only [Value.slice.injEq] at he; omega
    · simp only [Value.slice.injEq] at he; omega
  refine ⟨slcHM sk22 rfl (.tmp 25) (.tmp 26) (.tmp 27) rfl (y := p) (n := m) (c := c) rfl n n rfl rfl (Nat.le_refl _) (by omega) ?_⟩
  go_wp2_with (first | (with_reducible refine stS ?_))
  refine ⟨slcL sk22 rfl (.tmp 33) (.tmp 34) rfl (y := p) (n := m) (c := c) rfl h2 n rfl hn ?_⟩
  intro p' h5 h6
  go_wp2
  go_ret
  refine ⟨p', rfl, ⟨?_, ?_, by simp; omega, fun k hk => h5' k (h6 k hk), hlo⟩, grownBy_set _ _ _ _, ?_⟩
  · rw [block_set H1.out]
    rfl
  · have := h5.set (fun k hk => h4 k (h6 k hk)) 0 (.slice p' (m - n) (c - n))
    simpa [bv_drop] using this
  · have := (h2.cut0 n n (Nat.le_refl _) (by omega) (by simp [bv_length]; omega)).set (b := b) (fun k hk => h4 k ((own_slice p m c n n).trans hk)) 0 (.slice p' (m - n) (c - n))
    simpa [bv_take] using this

set_option maxHeartbeats 400000 in
theorem take_no (b lo : Nat) (p : Option Addr) (m c : Nat) (s : Bool) (l : List UInt8) (n : Nat) (w : World) (hr : RdIs w b lo p m c s l) (hn : s = true ∨ m < n) :
    Calls Tryd.prog 26 #[.pointer (some ⟨b, 0, none⟩), .int .i64 n] w fun e w' => e = .returned (.slice none 0 0) ∧ RdIs w' b lo p m c true l ∧ w.grownBy w' (some b) := by
  obtain ⟨h1, h2, h3, h5', hlo⟩ := hr
  have h4 : ∀ k, (Value.slice p m c).ownBlock = some k → k ≠ b := fun k hk => by have := h5' k hk; omega
  have c0 := cell_of_block (j := 0) h1 rfl
  have c1 := cell_of_block (j := 1) h1 rfl
  have f0 := frozen_of_block (j := 0) h1
  have f1 := frozen_of_block (j := 1) h1
  have H1 := Lib.hid h1
  clear h1
  have post : RdIs (w.setCell ⟨b, 1, none⟩ (.bool true)) b lo p m c true l ∧ w.grownBy (w.setCell ⟨b, 1, none⟩ (.bool true)) (some b) :=
    ⟨⟨by rw [block_set H1.out]; rfl, h2.set h4 _ _, h3, h5', hlo⟩, grownBy_set _ _ _ _⟩
  cases s with
  | true =>
    clear hn
    go_enter Tryd.func26, Tryd.ntmps26
    go_wp2
    go_ret
    exact ⟨rfl, post⟩
  | false =>
    have hmn : decide (m < n) = true := by simpa using hn
    clear hn
    go_enter Tryd.func26, Tryd.ntmps26
    go_wp2
    go_ret
    exact ⟨rfl, post⟩

/-- what a reader that may be short gives: nothing -/
def gives (s : Bool) (l : List UInt8) (n : Nat) : List UInt8 := if s = true ∨ l.length < n then [] else l.take n
def shortBy (s : Bool) (l : List UInt8) (n : Nat) : Bool := s || decide (l.length < n)
def leftBy (s : Bool) (l : List UInt8) (n : Nat) : List UInt8 := if s = true ∨ l.length < n then l else l.drop n

theorem leftBy_le (s : Bool) (l : List UInt8) (n : Nat) : (leftBy s l n).length ≤ l.length := by
  unfold leftBy
  split
  · exact Nat.le_refl _
  · rw [List.length_drop]; omega

/-- both ways in one -/
theorem take_any (b lo : Nat) (p : Option Addr) (m c : Nat) (s : Bool) (l : List UInt8) (n : Nat) (w : World) (hr : RdIs w b lo p m c s l) :
    Calls Tryd.prog 26 #[.pointer (some ⟨b, 0, none⟩), .int .i64 n] w fun e w' => ∃ q d p' m' c', e = .returned (.slice q (gives s l n).length d) ∧ RdIs w' b lo p' m' c' (shortBy s l n) (leftBy s l n) ∧ w.grownBy w' (some b) ∧
      View w' (.slice q (gives s l n).length d) (gives s l n).length 1 (bv (gives s l n)) := by
  have hl := hr.2.2.1
  by_cases hn : s = true ∨ m < n
  · refine (take_no b lo p m c s l n w hr hn).mono ?_
    rintro e w' ⟨rfl, h1, h2⟩
    have h : s = true ∨ l.length < n := by rwa [hl]
    have hs : shortBy s l n = true := by simpa [shortBy] using h
    refine ⟨none, 0, p, m, c, by simp [gives, h], by simpa [leftBy, h, hs] using h1, h2, by simpa [gives, h] using View.nil w' 1⟩
  · cases s with
    | true => simp at hn
    | false =>
      simp at hn
      refine (take_ok b lo p m c l n w hr hn).mono ?_
      rintro e w' ⟨p', rfl, h1, h2, h3⟩
      have h : ¬ (l.length < n) := by omega
      have hs : shortBy false l n = false := by simp [shortBy]; omega
      have hg : gives false l n = l.take n := by simp [gives, h]
      have hgl : (l.take n).length = n := by simp; omega
      have hlf : leftBy false l n = l.drop n := by simp [leftBy, h]
      rw [hs, hg, hlf, hgl]
      exact ⟨p, n, p', m - n, c - n, rfl, h1, h2, h3⟩

set_option maxHeartbeats 400000 in
theorem copied_spec (b lo : Nat) (p : Option Addr) (m c : Nat) (s : Bool) (l : List UInt8) (n : Nat) (w : World) (hr : RdIs w b lo p m c s l) (hm : m ≤ 140737488355328) :
    Calls Tryd.prog 19 #[.pointer (some ⟨b, 0, none⟩), .int .i64 n] w fun e w' => ∃ q d p' m' c', e = .returned (.slice q (gives s l n).length d) ∧ RdIs w' b lo p' m' c' (shortBy s l n) (leftBy s l n) ∧ w.grownBy w' (some b) ∧
      w'.ownsRow w.heap.size 5 1 (.slice q (gives s l n).length d) (gives s l n).length (bv (gives s l n)) := by
  have hgl : (gives s l n).length ≤ m := by
    have := hr.2.2.1
    unfold gives
    split
    · simp
    · rw [List.length_take]; omega
  go_enter Tryd.func19, Tryd.ntmps19
  go_wp2_with (first | (go_at_call 26; refine (take_any b lo p m c s l n _ hr).mono ?_; rintro e w1 ⟨q, d, p', m', c', rfl, h1, h2, h3⟩) | (first | (with_reducible refine stA ?_)))
  have hs := h2.size
  refine ⟨appB sk22 rfl (.const (.slice none 0 0)) (.tmp 7) rfl w.heap.size (v := .slice none 0 0) (xs := []) rfl rfl (World.ownsRow_nil _ _ _ _) h3 hs (gives s l n).length (by simp) (by omega) (gives s l n) (by simp) ?_⟩
  intro p2 c2 w2 ho hg
  go_wp2
  go_ret
  have hb2 : ∀ k, k < w1.heap.size → w2.heap[k]? = w1.heap[k]? := fun k hk => hg.by_.block k hk (by simp [Value.ownBlock])
  refine ⟨p2, c2, p', m', c', rfl, ⟨?_, ?_, h1.2.2⟩, ⟨hg.by_.os.trans h2.os, hg.by_.tape.trans h2.tape, hg.by_.output.trans h2.output, Nat.le_trans h2.size hg.by_.size, fun k hk hne => (hb2 k (by omega)).trans (h2.block k hk hne)⟩, ho⟩
  · rw [hb2 b (Array.getElem?_eq_some_iff.1 h1.1).1]; exact h1.1
  · exact h1.2.1.of_block hg.by_.size (fun k hk => hb2 k (h1.2.1.lt k hk))

set_option maxHeartbeats 400000 in
theorem done_spec (b lo : Nat) (p : Option Addr) (m c : Nat) (s : Bool) (l : List UInt8) (w : World) (hr : RdIs w b lo p m c s l) :
    Calls Tryd.prog 21 #[.pointer (some ⟨b, 0, none⟩)] w fun e w' => e = .returned (.bool (!s && l.isEmpty)) ∧ w = w' := by
  obtain ⟨h1, h2, h3, h5', hlo⟩ := hr
  have h4 : ∀ k, (Value.slice p m c).ownBlock = some k → k ≠ b := fun k hk => by have := h5' k hk; omega
  have c0 := cell_of_block (j := 0) h1 rfl
  have c1 := cell_of_block (j := 1) h1 rfl
  clear h1
  cases s with
  | true =>
    go_enter Tryd.func21, Tryd.ntmps21
    go_wp2
    go_ret
    exact ⟨by simp, rfl⟩
  | false =>
    have H3 := Lib.hid h3
    clear h3
    go_enter Tryd.func21, Tryd.ntmps21
    go_wp2
    go_ret
    have h := H3.out
    cases l with
    | nil => simp at h; subst h; exact ⟨by simp, rfl⟩
    | cons x l => simp at h; exact ⟨by simp; omega, rfl⟩
end Go.Proofs.YtmedbedpgbbdgaaDoor
