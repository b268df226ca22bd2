/- Walks: the document's own small functions: parts, Low, cut, High. -/
import Derived.Test.YtmedbedpgbbdgaaDoorDeskWalks2
namespace Go.Proofs.YtmedbedpgbbdgaaDoor
open Go.RowKit
set_option linter.unusedVariables false

theorem take_drop_step (l : List UInt8) (at_ k : Nat) (h : at_ + k < l.length) : (l.drop at_).take k ++ [l[at_ + k]] = (l.drop at_).take (k + 1) := by
  rw [List.take_succ_eq_append_getElem (by simp; omega)]
  simp

theorem and255 (x : Int) : bits BinOp.and IntKind.i64 x 255 = x % 256 := by
  have h : (BitVec.ofInt 64 x &&& BitVec.ofInt 64 255).toNat = (x % 256).toNat := by
    rw [BitVec.toNat_and, BitVec.toNat_ofInt, BitVec.toNat_ofInt]
    rw [show ((255 : Int) % ((2 ^ 64 : Nat) : Int)).toNat = 2 ^ 8 - 1 from rfl, Nat.and_two_pow_sub_one_eq_mod]
    simp only [Nat.reducePow]
    omega
  show IntKind.i64.wrap ((BitVec.ofInt 64 x &&& BitVec.ofInt 64 255).toNat : Int) = x % 256
  rw [h, IntKind.wrap_i64]
  omega

theorem high_step (X : Nat) (c : UInt8) : bits BinOp.or IntKind.i64 (wrap64 (wrap64 (X : Int) * 256)) (wrap64 (c.toNat : Int)) = wrap64 ((c.toNat + 256 * X : Nat) : Int) := by
  have hc := c.toNat_lt
  have h : (BitVec.ofInt 64 (wrap64 (wrap64 (X : Int) * 256)) ||| BitVec.ofInt 64 (wrap64 (c.toNat : Int))).toNat = (c.toNat + 256 * X) % 2 ^ 64 := by
    rw [BitVec.toNat_or, BitVec.toNat_ofInt, BitVec.toNat_ofInt]
    have e1 : (wrap64 (wrap64 (X : Int) * 256) % ((2 ^ 64 : Nat) : Int)).toNat = 2 ^ 8 * (X % 2 ^ 56) := by simp only [wrap64, Nat.reducePow]; omega
    have e2 : (wrap64 (c.toNat : Int) % ((2 ^ 64 : Nat) : Int)).toNat = c.toNat := by simp only [wrap64, Nat.reducePow]; omega
    rw [e1, e2, ← Nat.two_pow_add_eq_or_of_lt (by simpa using hc)]
    omega
  show IntKind.i64.wrap ((BitVec.ofInt 64 (wrap64 (wrap64 (X : Int) * 256)) ||| BitVec.ofInt 64 (wrap64 (c.toNat : Int))).toNat : Int) = _
  rw [h, IntKind.wrap_i64]
  unfold wrap64
  omega

theorem High_step (l : List UInt8) (at_ j n : Nat) (h : at_ + j < l.length) (hn : j < n) :
    Value.int .i64 (bits BinOp.or IntKind.i64 (wrap64 (wrap64 ((numLE ((l.drop (at_ + (j + 1))).take (n - (j + 1))) : Nat) : Int) * 256)) (wrap64 ((l[at_ + j]).toNat : Int))) = .int .i64 (wrap64 (numLE ((l.drop (at_ + j)).take (n - j)) : Int)) := by
  rw [high_step, List.drop_eq_getElem_cons h, show n - j = (n - (j + 1)) + 1 from by omega]
  simp only [List.take_succ_cons, numLE, Nat.add_assoc]

set_option maxHeartbeats 400000 in
theorem cut_spec (p : Option Addr) (m c : Nat) (l : List UInt8) (at_ n : Nat) (w : World) (hv : View w (.slice p m c) m 1 (bv l)) (hl : at_ + n ≤ m) (hm : m ≤ 140737488355328) :
    Calls Tryd.prog 22 #[.slice p m c, .int .i64 at_, .int .i64 n] w fun e w' => ∃ q d, e = .returned (.slice q n d) ∧ w'.ownsRow w.heap.size 5 1 (.slice q n d) n (bv ((l.drop at_).take n)) ∧ Below w.heap.size w w' := by
  have hlen : m ≤ l.length := by have := hv.1; simpa [bv] using this
  go_enter Tryd.func22, Tryd.ntmps22
  go_wp2
  go_loopw [7, 8] (fun v i wr => ∃ (k : Nat), k ≤ n ∧ i = .int .i64 k ∧ wr.ownsRow w.heap.size 5 1 v k (bv ((l.drop at_).take k)) ∧ Below w.heap.size w wr) (fun _ i _ => n - (intOf i).toNat)
  case atStart => exact ⟨0, by omega, rfl, by simpa using World.ownsRow_nil _ _ _ _, Below.refl _ _⟩
  case round =>
    obtain ⟨k, hk, rfl, ho, hb⟩ := hrel
    have hs := hb.size
    go_wp2_with (first | (with_reducible refine stA ?_) | (with_reducible refine stI 22 ?_))
    · have hkn : k < n := by assumption
      refine ⟨idx sk22 rfl (.tmp 15) (.tmp 18) rfl (y := p) (n := m) (c := c) rfl (hv.below hb) rfl (at_ + k) (by omega) (by omega) ?_⟩
      intro b' off hc' hb'
      have hc1 : wr.cell? ⟨b', off, none⟩ = some (.int .u8 (l[at_ + k]'(by omega)).toNat) := by
        have := hc' 0 (.int .u8 (l[at_ + k]'(by omega)).toNat) (by simp [bv, show at_ + k < l.length by omega])
        simpa using this
      clear hc'
      go_wp2_with (first | (with_reducible refine stA ?_) | (with_reducible refine stI 22 ?_))
      refine ⟨appB sk22 rfl (.tmp 14) (.tmp 21) rfl w.heap.size (v := u7) rfl rfl (ho.alloc _) (byte_lit1 wr _) (le_al hs _) (k + 1) (by omega) (by omega) ((l.drop at_).take (k + 1)) (take_drop_step l at_ k (by omega)) ?_⟩
      intro p2 c2 w2 ho2 hg2
      have hb2 := below_own (hb.alloc hs _) hg2 (ho.alloc _) (le_al hs _)
      go_wp2
      go_roundw
      case rel => exact ⟨k + 1, by omega, by go_num, ho2, hb2⟩
      case measure => simp [intOf]; omega
    · have hkn : k = n := by omega
      subst hkn
      obtain ⟨p2, c2, rfl⟩ := own_form ho
      go_ret
      exact ⟨p2, c2, rfl, ho, hb⟩

set_option maxHeartbeats 400000 in
theorem High_spec (p : Option Addr) (m c : Nat) (l : List UInt8) (at_ n : Nat) (w : World) (hv : View w (.slice p m c) m 1 (bv l)) (hl : at_ + n ≤ m) (hm : m ≤ 140737488355328) :
    Calls Tryd.prog 23 #[.slice p m c, .int .i64 at_, .int .i64 n] w fun e w' => e = .returned (.int .i64 (wrap64 (numLE ((l.drop at_).take n)))) ∧ w = w' := by
  have hlen : m ≤ l.length := by have := hv.1; simpa [bv] using this
  go_enter Tryd.func23, Tryd.ntmps23
  go_wp2
  go_loop [7, 8] (fun x i => ∃ (k : Nat), k ≤ n ∧ i = .int .i64 ((k : Int) - 1) ∧ x = .int .i64 (wrap64 (numLE ((l.drop (at_ + k)).take (n - k))))) (fun _ i => (intOf i + 1).toNat)
  case atStart => exact ⟨n, by omega, rfl, by simp [numLE]; unfold wrap64; omega⟩
  case round =>
    obtain ⟨k, hk, rfl, rfl⟩ := hrel
    go_wp2_with (first | (with_reducible refine stI 22 ?_))
    · have hk0 : 0 < k := by omega
      obtain ⟨j, rfl⟩ : ∃ j, k = j + 1 := ⟨k - 1, by omega⟩
      refine ⟨idx sk22 rfl (.tmp 17) (.tmp 20) rfl (y := p) (n := m) (c := c) rfl hv rfl (at_ + j) (by omega) (by omega) ?_⟩
      intro b' off hc' hb'
      have hc1 : w.cell? ⟨b', off, none⟩ = some (.int .u8 (l[at_ + j]'(by omega)).toNat) := by
        have := hc' 0 (.int .u8 (l[at_ + j]'(by omega)).toNat) (by simp [bv, show at_ + j < l.length by omega])
        simpa using this
      clear hc'
      have HO := Lib.hid (High_step l at_ j n (by omega) (by omega))
      go_wp2
      go_round
      case rel => exact ⟨j, by omega, by go_num, HO.out⟩
      case measure => simp [intOf]
    · have hk0 : k = 0 := by omega
      subst hk0
      go_ret
      exact ⟨rfl, rfl⟩

set_option maxHeartbeats 400000 in
theorem Low_spec (x : Int) (n : Nat) (w : World) (hn : n ≤ 140737488355328) :
    Calls Tryd.prog 18 #[.int .i64 x, .int .i64 n] w fun e w' => ∃ p c, e = .returned (.slice p n c) ∧ Below w.heap.size w w' ∧ w'.ownsRow w.heap.size 5 1 (.slice p n c) n (bv (lowZ x n)) := by
  go_enter Tryd.func18, Tryd.ntmps18
  go_wp2_with (first | (with_reducible refine stA ?_))
  go_loopw [0, 5, 6] (fun y v' i wr => ∃ (k : Nat) (xk : Int) (ys : List UInt8), k ≤ n ∧ i = .int .i64 k ∧ y = .int .i64 xk ∧ wr.ownsRow w.heap.size 5 1 v' k (bv ys) ∧ Below w.heap.size w wr ∧ Hid (ys ++ lowZ xk (n - k) = lowZ x n)) (fun _ _ i _ => n - (intOf i).toNat)
  case atStart => exact ⟨0, x, [], by omega, rfl, rfl, World.ownsRow_nil _ _ _ _, Below.refl _ _, rfl⟩
  case round =>
    obtain ⟨k, xk, ys, hk, rfl, rfl, ho, hb, hH⟩ := hrel
    have hs := hb.size
    go_wp2_with (first | (with_reducible refine stA ?_))
    · have hkn : k < n := by assumption
      have HR : Hid ((ys ++ [UInt8.ofNat (xk % 256).toNat]) ++ lowZ (xk / 256) (n - (k + 1)) = lowZ x n) := lowZ_step hH hkn
      refine ⟨appB sk22 rfl (.tmp 12) (.tmp 16) rfl w.heap.size (v := u5) rfl rfl (ho.alloc _) (View.byte1 (by rw [and255]; omega) (by rw [and255]; omega)) (le_al hs _) (k + 1) (by omega) (by omega) (ys ++ [UInt8.ofNat (xk % 256).toNat]) (by rw [and255]; simp) ?_⟩
      intro p2 c2 w2 ho2 hg2
      have hb2 := below_own (hb.alloc hs _) hg2 (ho.alloc _) (le_al hs _)
      go_wp2
      go_roundw
      case rel => exact ⟨k + 1, xk / 256, _, by omega, by go_num, rfl, ho2, hb2, HR⟩
      case measure => simp [intOf]; omega
    · have hkn : k = n := by omega
      subst hkn
      have h := hH.out
      simp only [Nat.sub_self, lowZ, List.append_nil] at h
      subst h
      obtain ⟨p2, c2, rfl⟩ := own_form ho
      go_ret
      exact ⟨p2, c2, rfl, hb, ho⟩
end Go.Proofs.YtmedbedpgbbdgaaDoor
