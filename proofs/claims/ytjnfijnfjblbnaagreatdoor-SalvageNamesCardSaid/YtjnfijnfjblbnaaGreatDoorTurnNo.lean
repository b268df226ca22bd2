/- Walks: turn, where no bit is found. -/
import Derived.Test.YtjnfijnfjblbnaaGreatDoorFind3
import Derived.Test.YtjnfijnfjblbnaaGreatDoorCrcWhole
namespace Go.Proofs.YtjnfijnfjblbnaaGreatDoor
open Go.RowKit Go.Maps
set_option linter.unusedVariables false

def storedK (l : List UInt8) (n : Nat) : Nat → Nat
  | 0 => 0
  | k + 1 => storedK l n k ||| (l.getD (n + k) 0).toNat * 2 ^ (8 * k)
theorem storedK_lt (l : List UInt8) (n k : Nat) (h : k ≤ 4) : storedK l n k < 2 ^ (8 * k) := by
  induction k with
  | zero => simp [storedK]
  | succ k ih =>
    have h1 := ih (by omega)
    have h2 := (l.getD (n + k) 0).toNat_lt
    have : storedK l n (k + 1) = storedK l n k + (l.getD (n + k) 0).toNat * 2 ^ (8 * k) := Crc.or_add _ _ _ h1
    rw [this, show 8 * (k + 1) = 8 * k + 8 by omega, Nat.pow_add]
    have h3 : (l.getD (n + k) 0).toNat * 2 ^ (8 * k) ≤ 255 * 2 ^ (8 * k) := Nat.mul_le_mul_right _ (by omega)
    have h4 : 2 ^ (8 * k) * 2 ^ 8 = 255 * 2 ^ (8 * k) + 2 ^ (8 * k) := by rw [Nat.mul_comm]; omega
    omega
theorem storedK_4 (l : List UInt8) (n : Nat) : storedK l n 4 = Crc.stored l n := by
  simp [storedK, Crc.stored]

set_option maxRecDepth 100000 in
set_option maxHeartbeats 1600000 in
theorem turn_no (tb toff n m c : Nat) (q : Option Addr) (l : List UInt8) (cs : Array Value) (T : TypeId) (w : World) (hc : w.heap[tb]? = some (.cells cs T (0, 0))) (ht : TabIs w tb toff n cs) (h1 : 1 ≤ n) (h2 : n ≤ 4096)
    (hv : View w (.slice q m c) m 1 (bv l)) (hl : l.length = m) (hm : n + 4 ≤ m) (hno : Crc.last (Crc.pairs n) (Crc.syn l n) = none) :
    Calls Tryz.prog 17 #[.pointer (some ⟨tb, toff, none⟩), .slice q m c, .int .i64 n] w fun e w' => e = .returned (.tuple #[.nilFunc, .bool false]) ∧ TabNew w w' tb toff n cs T := by
  have lb : tb < w.heap.size := (Array.getElem?_eq_some_iff.1 hc).1
  have hmx := hv.cap
  have HC := Lib.hid hc
  have HL := Lib.hid hl
  have hml : m ≤ l.length := by omega
  clear hc hl
  have hnot : ∀ (x : Bool) (w : World), (Op.unary .not (.bool x)).run Tryz.prog w = .ok (.bool (!x)) w := fun _ _ => rfl
  go_enter Tryz.func17, Tryz.ntmps17
  go_wp2_with (with_reducible refine stB 22 ?_)
  refine ⟨bx rfl 22 (.tmp 1) rfl (v := .slice q m c) rfl ?_⟩
  intro W1 z1 p1 b1
  simp only [Value.cells] at p1
  have P1 := Lib.hid p1
  have y1 : w.heap.size + 1 ≤ W1.heap.size := by omega
  have C1 : Hid (W1.heap[tb]? = some (.cells cs T (0, 0))) := Lib.hid ((b1.block _ (by omega)).trans HC.out)
  have cb := cell_of_block (j := 0) p1 rfl
  have hv1 := hv.below b1
  clear p1 z1
  go_wp2
  go_loop [8, 13] (fun s i => ∃ (k x : Nat), k ≤ 4 ∧ i = .int .i64 k ∧ s = .int .u32 x ∧ Hid (x = storedK l n k)) (fun _ i => 4 - (intOf i).toNat)
  case atStart => exact ⟨0, 0, by omega, rfl, rfl, Lib.hid rfl⟩
  case round =>
    obtain ⟨k, x, hk, rfl, rfl, hx⟩ := hrel
    by_cases hlt : k < 4
    · have x1 : x < 4294967296 := by
        have := storedK_lt l n k (by omega)
        have h3 : 2 ^ (8 * k) ≤ 2 ^ 32 := Nat.pow_le_pow_right (by decide) (by omega)
        rw [← hx.out] at this
        omega
      go_wp2_with (first | go_skip | (with_reducible refine stI 22 ?_))
      refine ⟨idx skB rfl (.tmp 17) (.tmp 20) rfl (y := q) (n := m) (c := c) rfl hv1 rfl (n + k) (by simp) (by omega) ?_⟩
      intro b0 o0 hc0 _
      obtain ⟨g, hg⟩ : ∃ g, g = (l.getD (n + k) 0).toNat := ⟨_, rfl⟩
      have g1 : g < 256 := by rw [hg]; exact (l.getD (n + k) 0).toNat_lt
      have G := Lib.hid hg
      clear hg
      have C0 : W1.cell? ⟨b0, o0, none⟩ = some (.int .u8 g) := by rw [G.out]; exact getD_cell hc0 (by omega)
      clear hc0
      go_wp2_with (first | go_skip | (with_reducible refine stE 44 ?_))
      have hp : g * 2 ^ (8 * k) < 4294967296 := by
        have h3 : 2 ^ (8 * k) ≤ 2 ^ 24 := Nat.pow_le_pow_right (by decide) (by omega)
        have h4 : g * 2 ^ (8 * k) ≤ 255 * 2 ^ 24 := Nat.mul_le_mul (by omega) h3
        omega
      obtain ⟨y, hy⟩ : ∃ y, y = g * 2 ^ (8 * k) := ⟨_, rfl⟩
      have HY := Lib.hid hy
      have yy : y < 4294967296 := by omega
      clear hy
      refine ⟨shl32 rfl rfl (p := g) (n := 8 * k) (i := 8 * (k : Int)) rfl rfl (by simp) (by omega) hp y HY.out.symm ?_⟩
      go_wp2_with (first | go_skip | (with_reducible refine stE 44 ?_))
      obtain ⟨z, hz⟩ : ∃ z, z = x ||| y := ⟨_, rfl⟩
      have HZ : Hid (z = storedK l n (k + 1)) := Lib.hid (by rw [hz, hx.out, HY.out, G.out]; rfl)
      have HZ0 := Lib.hid hz
      clear hz
      refine ⟨or32 rfl rfl (p := x) (q := y) rfl rfl x1 yy z HZ0.out.symm ?_⟩
      go_wp2
      go_round
      case rel => exact ⟨k + 1, z, by omega, by go_num, rfl, HZ⟩
      case measure => simp [intOf]; omega
    · have hk4 : k = 4 := by omega
      subst hk4
      have hx4 : x = Crc.stored l n := by rw [hx.out, storedK_4]
      have x1 : x < 4294967296 := by rw [hx4]; exact Crc.stored_lt _ _
      have HX := Lib.hid hx4
      clear hx4 hx
      go_wp2_with (first | go_skip | (with_reducible refine stS ?_))
      refine ⟨slcH skB rfl (.tmp 32) (.tmp 33) rfl (y := q) (n := m) (c := c) rfl n rfl (by omega) ?_⟩
      go_wp2_with (first | go_skip | (go_at_call 31; with_reducible refine stK ?_))
      refine ⟨(sum_spec q n c (l.take n) W1 (hv1.pre n (by omega) hml) (by rw [List.length_take]; omega)).mono ?_⟩
      rintro e W2 ⟨rfl, b2⟩
      obtain ⟨s, hs⟩ : ∃ s, s = Crc.sum (l.take n) := ⟨_, rfl⟩
      have s1 : s < 4294967296 := by rw [hs]; exact Crc.sum_lt _
      rw [← hs]
      obtain ⟨d, hd⟩ : ∃ d, d = s ^^^ x := ⟨_, rfl⟩
      have HD : Hid (d = Crc.syn l n) := Lib.hid (by rw [hd, hs, HX.out]; rfl)
      have d1 : d < 4294967296 := by rw [HD.out]; exact Crc.syn_lt _ _
      have HD0 := Lib.hid hd
      clear hs hd
      have C2 : Hid (W2.heap[tb]? = some (.cells cs T (0, 0))) := Lib.hid ((b2.block _ (by omega)).trans C1.out)
      go_wp2_with (first | go_skip | (with_reducible refine stE 44 ?_))
      refine ⟨xor32 rfl rfl (p := s) (q := x) rfl rfl s1 x1 d HD0.out.symm ?_⟩
      go_wp2_with (first | go_skip | (go_at_call 30; with_reducible refine stK ?_))
      refine ⟨(find_spec tb toff n d cs T W2 C2.out (ht.below (b1.trans (b2.mono (by omega)))) h1 h2 d1).mono ?_⟩
      rintro e W3 ⟨rfl, t3⟩
      have hf : foundV n d = .tuple #[.int .i64 0, .bool false] := by unfold foundV; rw [HD.out, hno]
      rw [hf]
      have t3' : TabNew w W3 tb toff n cs T := by
        obtain ⟨cs', r1, r2⟩ := t3
        exact ⟨cs', grownBy_trans (grownBy_below (grownBy_below (grownBy_refl w (some tb)) b1) b2) r1, r2⟩
      clear t3 hf
      go_wp2_with (first | go_skip | (with_reducible refine stAl 3 ?_))
      refine ⟨al rfl 3 rfl (z := .int .i64 0) (by kernel_rfl) ?_⟩
      intro W4 z4 h4 b4
      simp only [Value.cells] at h4
      have H4 := Lib.hid h4
      have t4 := t3'.below lb b4
      clear h4
      go_wp2_with (first | go_skip | (with_reducible refine stW 3 ?_))
      refine ⟨stCell rfl 3 (.tmp 10) (.tmp 39) rfl (b := W3.heap.size) (off := 0) (v := .int .i64 0) rfl H4.out rfl rfl (by kernel_rfl) (by decide) ?_⟩
      intro W5 z5 h5 g5
      have t5 := t4.other g5 (by have := t3'.size; omega) (by have := t3'.size; omega) ⟨_, _, H4.out⟩
      clear h5 z4 z5
      go_wp2
      go_ret2
      exact ⟨rfl, t5⟩
end Go.Proofs.YtjnfijnfjblbnaaGreatDoor
