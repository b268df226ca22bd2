/- Walks: package crc: what each function computes. -/
import Derived.Test.YtjnfijnfjblbnaaGreatDoorLib2
import Derived.Test.YtjnfijnfjblbnaaGreatDoorFlip
namespace Go.Proofs.YtjnfijnfjblbnaaGreatDoor
open Go.RowKit
set_option linter.unusedVariables false

theorem skB : SK Tryz.prog 22 5 1 1 (.int .u8 0) := SK.mk' Tryz.underlying22 (by kernel_rfl) rfl (by decide)

def tblV : Array Value := (Crc.tbl.map fun n : Nat => Value.int .u32 (n : Int)).toArray
theorem tblV_size : tblV.size = 16 := rfl
theorem tblV_at (i : Nat) (h : i < 16) : tblV[i]? = some (.int .u32 (Crc.tbl.getD i 0 : Nat)) := by
  have hl : i < Crc.tbl.length := h
  unfold tblV
  rw [List.getElem?_toArray, List.getElem?_map, List.getElem?_eq_getElem hl, List.getD_eq_getElem?_getD, List.getElem?_eq_getElem hl]
  rfl
theorem tbl_lt (i : Nat) (h : i < 16) : Crc.tbl.getD i 0 < 4294967296 := by
  have : ∀ i, i < 16 → Crc.tbl.getD i 0 < 4294967296 := by decide
  exact this i h

set_option maxHeartbeats 1000000 in
theorem feed_spec (r : Nat) (q : Option Addr) (n c : Nat) (l : List UInt8) (w : World) (hr : r < 4294967296) (hv : View w (.slice q n c) n 1 (bv l)) (hl : l.length = n) :
    Calls Tryz.prog 51 #[.int .u32 r, .slice q n c] w fun e w' => e = .returned (.int .u32 (Crc.feed r l : Nat)) ∧ Below w.heap.size w w' := by
  have hmx := hv.max
  go_enter Tryz.func51, Tryz.ntmps51
  go_wp2_with (with_reducible refine stAl 135 ?_)
  refine ⟨al rfl 135 rfl (z := .agg (Array.replicate 16 (.int .u32 0))) (by kernel_rfl) ?_⟩
  intro W1 z1 h1 b1
  simp only [Value.cells] at h1
  go_wp2_with (with_reducible refine stW 135 ?_)
  refine ⟨stRow rfl 135 (.tmp 5) (.tmp 8) rfl (b := w.heap.size) (c := (Array.replicate 16 (.int .u32 0))) (c' := tblV) rfl h1 rfl (by kernel_rfl) (by simp [tblV_size]) (by kernel_rfl) ?_⟩
  intro W2 z2 h2 g2
  have H2 := Lib.hid h2
  have b2 : Below w.heap.size w W2 := b1.grown g2 (by omega) (fun k hk => by cases hk; exact Nat.le_refl _)
  clear h1 h2 b1 g2
  go_wp2
  go_loop [0, 7, 11] (fun r' _ i => ∃ (k g : Nat), k ≤ n ∧ i = .int .i64 k ∧ r' = .int .u32 g ∧ Hid (g = Crc.feed r (l.take k))) (fun _ _ i => n - (intOf i).toNat)
  case atStart => exact ⟨0, r, by omega, rfl, rfl, Lib.hid rfl⟩
  case round =>
    obtain ⟨k, g, hk, rfl, rfl, hg⟩ := hrel
    have hg1 : g < 4294967296 := by rw [hg.out]; exact Crc.feed_lt _ hr
    by_cases hlt : k < n
    · have hv2 : View W2 (.slice q n c) n 1 (bv l) := hv.below b2
      go_wp2_with (with_reducible refine stI 22 ?_)
      refine ⟨idx skB rfl (.tmp 9) (.tmp 11) rfl (y := q) (n := n) (c := c) rfl hv2 rfl k rfl hlt ?_⟩
      intro b off hc _
      obtain ⟨x, hx⟩ : ∃ x : UInt8, x = l[k] := ⟨_, rfl⟩
      have hcell : W2.cell? ⟨b, off, none⟩ = some (.int .u8 x.toNat) := by
        have := hc 0 (.int .u8 x.toNat) (by simp [bv, hl, hlt, hx, List.getElem?_drop])
        simpa using this
      have hx1 : x.toNat < 256 := x.toNat_lt
      have HX := Lib.hid hx
      clear hc hx
      have ht := Crc.feed_take r l k (by omega)
      rw [← hg.out, ← HX.out] at ht
      have HT := Lib.hid ht
      clear ht
      go_wp2_with (with_reducible refine stE 44 ?_)
      refine ⟨xor32 rfl rfl (p := g) (q := x.toNat) rfl rfl hg1 (by omega) (g ^^^ x.toNat) rfl ?_⟩
      obtain ⟨y, hy⟩ : ∃ y, y = g ^^^ x.toNat := ⟨_, rfl⟩
      rw [← hy]
      have y1 : y < 4294967296 := by rw [hy]; exact Nat.xor_lt_two_pow (n := 32) hg1 (by omega)
      have HY := Lib.hid hy
      clear hy
      obtain ⟨i1, hi1⟩ : ∃ i, i = y % 16 := ⟨_, rfl⟩
      have li1 : i1 < 16 := by omega
      have HI1 := Lib.hid hi1
      clear hi1
      go_wp2_with (with_reducible refine stE 44 ?_)
      refine ⟨low32 rfl rfl (p := y) 4 rfl rfl y1 (by decide) i1 HI1.out.symm ?_⟩
      go_wp2_with (with_reducible refine stI 135 ?_)
      refine ⟨idxA (size := 1) Tryz.underlying135 (by kernel_rfl) rfl (.tmp 5) (.tmp 20) rfl rfl (i := (i1 : Int)) rfl i1 rfl li1 ?_⟩
      rw [show 0 + i1 * 1 = i1 by omega]
      obtain ⟨t1, ht1⟩ : ∃ t, t = Crc.tbl.getD i1 0 := ⟨_, rfl⟩
      have ct1 : W2.cell? ⟨w.heap.size, i1, none⟩ = some (.int .u32 t1) := by rw [ht1, cell_of_row _ _ _ _ _ _ H2.out, tblV_at _ li1]
      have lt1 : t1 < 4294967296 := by rw [ht1]; exact tbl_lt _ li1
      have HT1 := Lib.hid ht1
      clear ht1
      go_wp2_with (first | (with_reducible refine stE 44 ?_))
      obtain ⟨s1, hs1⟩ : ∃ s, s = y / 16 := ⟨_, rfl⟩
      have ls1 : s1 < 4294967296 := by omega
      have HS1 := Lib.hid hs1
      clear hs1
      refine ⟨shr32 rfl rfl (p := y) (n := 4) rfl rfl (by decide) s1 HS1.out.symm ?_⟩
      go_wp2_with (first | (with_reducible refine stE 44 ?_))
      obtain ⟨z, hz⟩ : ∃ o : Nat, o = t1 ^^^ s1 := ⟨_, rfl⟩
      have z1 : z < 4294967296 := by rw [hz]; exact Nat.xor_lt_two_pow (n := 32) lt1 ls1
      have Hz := Lib.hid hz
      clear hz
      refine ⟨xor32 rfl rfl (p := t1) (q := s1) rfl rfl lt1 ls1 z Hz.out.symm ?_⟩
      obtain ⟨i2, hi2⟩ : ∃ i, i = z % 16 := ⟨_, rfl⟩
      have li2 : i2 < 16 := by omega
      have HI2 := Lib.hid hi2
      clear hi2
      go_wp2_with (with_reducible refine stE 44 ?_)
      refine ⟨low32 rfl rfl (p := z) 4 rfl rfl z1 (by decide) i2 HI2.out.symm ?_⟩
      go_wp2_with (with_reducible refine stI 135 ?_)
      refine ⟨idxA (size := 1) Tryz.underlying135 (by kernel_rfl) rfl (.tmp 5) (.tmp 27) rfl rfl (i := (i2 : Int)) rfl i2 rfl li2 ?_⟩
      rw [show 0 + i2 * 1 = i2 by omega]
      obtain ⟨t2, ht2⟩ : ∃ t, t = Crc.tbl.getD i2 0 := ⟨_, rfl⟩
      have ct2 : W2.cell? ⟨w.heap.size, i2, none⟩ = some (.int .u32 t2) := by rw [ht2, cell_of_row _ _ _ _ _ _ H2.out, tblV_at _ li2]
      have lt2 : t2 < 4294967296 := by rw [ht2]; exact tbl_lt _ li2
      have HT2 := Lib.hid ht2
      clear ht2
      go_wp2_with (first | (with_reducible refine stE 44 ?_))
      obtain ⟨s2, hs2⟩ : ∃ s, s = z / 16 := ⟨_, rfl⟩
      have ls2 : s2 < 4294967296 := by omega
      have HS2 := Lib.hid hs2
      clear hs2
      refine ⟨shr32 rfl rfl (p := z) (n := 4) rfl rfl (by decide) s2 HS2.out.symm ?_⟩
      go_wp2_with (first | (with_reducible refine stE 44 ?_))
      obtain ⟨v, hv⟩ : ∃ o : Nat, o = t2 ^^^ s2 := ⟨_, rfl⟩
      have v1 : v < 4294967296 := by rw [hv]; exact Nat.xor_lt_two_pow (n := 32) lt2 ls2
      have Hv := Lib.hid hv
      clear hv
      refine ⟨xor32 rfl rfl (p := t2) (q := s2) rfl rfl lt2 ls2 v Hv.out.symm ?_⟩
      have HV : Hid (v = Crc.feed r (l.take (k + 1))) := Lib.hid (by rw [HT.out, ← HY.out, Hv.out, HT2.out, HS2.out, HI2.out, Hz.out, HT1.out, HS1.out, HI1.out]; exact Crc.nib2 y)
      go_wp2
      go_round
      case rel => exact ⟨k + 1, v, by omega, by go_num, rfl, HV⟩
      case measure => simp [intOf]; omega
    · have hkn : k = n := by omega
      go_wp2
      go_ret
      have e : g = Crc.feed r l := by rw [hg.out, hkn, List.take_of_length_le (by omega)]
      subst e
      exact ⟨rfl, b2⟩

theorem update_spec (r : Nat) (q : Option Addr) (n c : Nat) (l : List UInt8) (w : World) (hr : r < 4294967296) (hv : View w (.slice q n c) n 1 (bv l)) (hl : l.length = n) :
    Calls Tryz.prog 43 #[.int .u32 r, .slice q n c] w fun e w' => e = .returned (.int .u32 (Crc.update r l : Nat)) ∧ Below w.heap.size w w' := by
  go_enter Tryz.func43, Tryz.ntmps43
  go_wp2_with (with_reducible refine stU 44 ?_)
  obtain ⟨x, hx⟩ : ∃ x, x = Crc.inv r := ⟨_, rfl⟩
  have x1 : x < 4294967296 := by rw [hx]; exact Crc.inv_lt r
  have HX := Lib.hid hx
  clear hx
  refine ⟨not32 rfl rfl (p := r) rfl hr x HX.out.symm ?_⟩
  go_wp2_with (first | (with_reducible refine stU 44 ?_) | (go_at_call 51; with_reducible refine stK ?_))
  refine ⟨(feed_spec x q n c l w x1 hv hl).mono ?_⟩
  rintro e w1 ⟨rfl, hb⟩
  obtain ⟨y, hy⟩ : ∃ y, y = Crc.feed x l := ⟨_, rfl⟩
  have y1 : y < 4294967296 := by rw [hy]; exact Crc.feed_lt _ x1
  rw [← hy]
  have HY := Lib.hid hy
  clear hy
  go_wp2_with (first | (with_reducible refine stU 44 ?_))
  obtain ⟨z, hz⟩ : ∃ z, z = Crc.inv y := ⟨_, rfl⟩
  have HZ := Lib.hid hz
  clear hz
  refine ⟨not32 rfl rfl (p := y) rfl y1 z HZ.out.symm ?_⟩
  have e : z = Crc.update r l := by rw [HZ.out, HY.out, HX.out]; rfl
  subst e
  go_wp2
  go_ret
  exact ⟨rfl, hb⟩

theorem sum_spec (q : Option Addr) (n c : Nat) (l : List UInt8) (w : World) (hv : View w (.slice q n c) n 1 (bv l)) (hl : l.length = n) :
    Calls Tryz.prog 31 #[.slice q n c] w fun e w' => e = .returned (.int .u32 (Crc.sum l : Nat)) ∧ Below w.heap.size w w' := by
  have C := update_spec 0 q n c l w (by decide) hv hl
  rw [show Crc.update 0 l = Crc.sum l from rfl] at C
  go_enter Tryz.func31, Tryz.ntmps31
  go_wp2_with (first | (go_at_call 43; with_reducible refine stK ?_))
  refine ⟨C.mono ?_⟩
  rintro e w1 ⟨rfl, hb⟩
  go_wp2
  go_ret
  exact ⟨rfl, hb⟩
end Go.Proofs.YtjnfijnfjblbnaaGreatDoor
