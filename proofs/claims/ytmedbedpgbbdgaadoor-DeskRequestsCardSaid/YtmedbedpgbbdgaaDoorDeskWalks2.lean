/- Walks: numbers out of bytes and bytes out of numbers, in the program and in the document's answer. -/
import Derived.Test.YtmedbedpgbbdgaaDoorDeskWalks
namespace Go.Proofs.YtmedbedpgbbdgaaDoor
open Go.RowKit
set_option linter.unusedVariables false

/-- the number in bytes, the lowest first -/
def numLE : List UInt8 → Nat
  | [] => 0
  | b :: r => b.toNat + 256 * numLE r

theorem numLE_append (l m : List UInt8) : numLE (l ++ m) = numLE l + 256 ^ l.length * numLE m := by
  induction l with
  | nil => simp [numLE]
  | cons b l ih =>
    simp only [List.cons_append, numLE, ih, List.length_cons, Nat.pow_succ, Nat.mul_add, Nat.add_assoc]
    congr 2
    rw [← Nat.mul_assoc, Nat.mul_comm 256]

theorem numLE_lt (l : List UInt8) : numLE l < 256 ^ l.length := by
  induction l with
  | nil => simp [numLE]
  | cons b l ih => simp [numLE, Nat.pow_succ]; have := b.toNat_lt; omega

theorem pow256 (k : Nat) (hk : k < 8) : 256 ^ k * 256 ≤ 18446744073709551616 := by
  rw [← Nat.pow_succ]
  have h : 256 ^ (k + 1) ≤ 256 ^ 8 := Nat.pow_le_pow_right (by decide) (by omega)
  simpa using h

theorem or_step (A k : Nat) (c : UInt8) (hA : A < 256 ^ k) (hk : k < 8) :
    bits BinOp.or IntKind.u64 (A : Int) (IntKind.u64.wrap (IntKind.u64.wrap (c.toNat : Int) * 2 ^ (8 * k))) = ((A + 256 ^ k * c.toNat : Nat) : Int) := by
  have hc := c.toNat_lt
  have hp := pow256 k hk
  have h2 : 256 ^ k * c.toNat < 18446744073709551616 := by
    have h3 : 0 < 256 ^ k := Nat.pow_pos (by decide)
    have : 256 ^ k * c.toNat < 256 ^ k * 256 := Nat.mul_lt_mul_of_pos_left (by simpa using hc) h3
    omega
  have e1 : IntKind.u64.wrap (c.toNat : Int) = (c.toNat : Int) := IntWalk.u64_in _ (by simp at hc; omega)
  have e2 : (c.toNat : Int) * 2 ^ (8 * k) = ((256 ^ k * c.toNat : Nat) : Int) := by
    have h4 : (256 : Nat) ^ k = 2 ^ (8 * k) := by rw [Nat.pow_mul]
    rw [h4, Int.mul_comm, Int.natCast_mul, Int.natCast_pow]
    rfl
  have e3 : IntKind.u64.wrap ((256 ^ k * c.toNat : Nat) : Int) = ((256 ^ k * c.toNat : Nat) : Int) := IntWalk.u64_in _ (by omega)
  rw [e1, e2, e3, u64_or_nat A _ (by omega) h2]
  congr 1
  have h4 : (256 : Nat) ^ k = 2 ^ (8 * k) := by rw [Nat.pow_mul]
  rw [h4] at hA ⊢
  rw [Nat.add_comm, Nat.two_pow_add_eq_or_of_lt hA, Nat.or_comm]

theorem numLE_take (ys : List UInt8) (k : Nat) (hk : k < ys.length) : numLE (ys.take (k + 1)) = numLE (ys.take k) + 256 ^ k * (ys[k]).toNat := by
  rw [List.take_succ_eq_append_getElem hk, numLE_append]
  simp [numLE, Nat.min_eq_left (Nat.le_of_lt hk)]

theorem or_take (ys : List UInt8) (k : Nat) (hk : k < ys.length) (h8 : ys.length ≤ 8) :
    Value.int .u64 (bits BinOp.or IntKind.u64 (numLE (ys.take k) : Int) (IntKind.u64.wrap (IntKind.u64.wrap ((ys[k]).toNat : Int) * 2 ^ (8 * k)))) = .int .u64 (numLE (ys.take (k + 1)) : Int) := by
  have := numLE_lt (ys.take k)
  rw [List.length_take, Nat.min_eq_left (Nat.le_of_lt hk)] at this
  rw [or_step _ _ _ this (by omega), numLE_take ys k hk]

set_option maxHeartbeats 400000 in
theorem number_spec (b lo : Nat) (p : Option Addr) (m c : Nat) (s : Bool) (l : List UInt8) (n : Nat) (w : World) (hr : RdIs w b lo p m c s l) (hn : n ≤ 8) :
    Calls Tryd.prog 20 #[.pointer (some ⟨b, 0, none⟩), .int .i64 n] w fun e w' => ∃ p' m' c', e = .returned (.int .u64 (numLE (gives s l n))) ∧ RdIs w' b lo p' m' c' (shortBy s l n) (leftBy s l n) ∧ w.grownBy w' (some b) := by
  have hgl : (gives s l n).length ≤ 8 := by
    unfold gives
    split
    · simp
    · rw [List.length_take]; omega
  go_enter Tryd.func20, Tryd.ntmps20
  go_wp2_with (first | (go_at_call 26; refine (take_any b lo p m c s l n _ hr).mono ?_; rintro e w1 ⟨q, d, p', m', c', rfl, h1, h2, h3⟩) | (first | (with_reducible refine stI 22 ?_)))
  generalize hys : gives s l n = ys at *
  have Hys := Lib.hid hys
  clear hys
  go_loop [5, 12] (fun x i => ∃ k : Nat, k ≤ ys.length ∧ i = .int .i64 k ∧ x = .int .u64 (numLE (ys.take k))) (fun _ i => ys.length - (intOf i).toNat)
  case atStart => exact ⟨0, by omega, rfl, rfl⟩
  case round =>
    obtain ⟨k, hk, rfl, rfl⟩ := hrel
    go_wp2_with (first | (with_reducible refine stI 22 ?_))
    · have hkl : k < ys.length := by assumption
      refine ⟨idx sk22 rfl (.tmp 10) (.tmp 12) rfl (y := q) (n := ys.length) (c := d) rfl h3 rfl k rfl hkl ?_⟩
      intro b' off hc' hb'
      have hc1 : w1.cell? ⟨b', off, none⟩ = some (.int .u8 (ys[k]'hkl).toNat) := by
        have := hc' 0 (.int .u8 (ys[k]'hkl).toNat) (by simp [bv, hkl])
        simpa using this
      clear hc'
      have HO := Lib.hid (or_take ys k hkl hgl)
      go_wp2
      go_round
      case rel => exact ⟨k + 1, by omega, by go_num, HO.out⟩
      case measure => simp [intOf]; omega
    · have hk2 : k = ys.length := by omega
      subst hk2
      rw [← Hys.out] at *
      simp only [List.take_length]
      go_ret
      exact ⟨rfl, ⟨p', m', c', h1⟩, h2⟩
end Go.Proofs.YtmedbedpgbbdgaaDoor
