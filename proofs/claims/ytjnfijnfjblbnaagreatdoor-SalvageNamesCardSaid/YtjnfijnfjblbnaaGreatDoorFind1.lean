/- Walks: the table of a block's bits: how it is filled. -/
import Derived.Test.YtjnfijnfjblbnaaGreatDoorFindSt
import Derived.RegionTactic
import Derived.BigRegion
import Derived.StillTailTactics
namespace Go.Proofs.YtjnfijnfjblbnaaGreatDoor
open Go.RowKit Go.Maps
set_option linter.unusedVariables false


set_option maxHeartbeats 1000000 in
set_option maxRecDepth 100000 in
theorem fill_spec (pn pt tb toff n : Nat) (cs : Array Value) (T : TypeId) (w : World)
    (hn : w.heap[pn]? = some (.cells #[.int .i64 n] 3 (0, 0))) (ht : w.heap[pt]? = some (.cells #[.pointer (some ⟨tb, toff, none⟩)] 83 (0, 0)))
    (hc : w.heap[tb]? = some (.cells cs T (0, 0))) (hs : toff + 3 < cs.size) (hne1 : pn ≠ tb) (hne2 : pt ≠ tb) (h1 : 1 ≤ n) (h2 : n ≤ 4096) :
    Calls Tryz.prog 42 #[.pointer (some ⟨pn, 0, none⟩), .pointer (some ⟨pt, 0, none⟩)] w fun e w' => ∃ mb, e = .returned (.tuple #[]) ∧ w.grownBy w' (some tb) ∧ w.heap.size ≤ mb ∧
      w'.heap[tb]? = some (.cells (cs.setIfInBounds (toff + 3) (.map (some mb))) T (0, 0)) ∧ w'.ownsMap Tryz.prog 44 (plainElem (H := Unit) Tryz.prog 3) mb (8 * n + 32) (Crc.putAll (Crc.pairs n) (.map [])) := by
  have hmm : ∀ (k : Int) (w : World), (Instr.makeMap 53 (some (.int .i64 k))).run Tryz.prog w = .ok (.map (some w.heap.size)) (w.alloc (.map #[] 0)) := fun _ _ => rfl
  have HN := Lib.hid hn
  have HT := Lib.hid ht
  have HC := Lib.hid hc
  have ln : pn < w.heap.size := (Array.getElem?_eq_some_iff.1 hn).1
  have lt : pt < w.heap.size := (Array.getElem?_eq_some_iff.1 ht).1
  have lb : tb < w.heap.size := (Array.getElem?_eq_some_iff.1 hc).1
  have cn := cell_of_block (j := 0) hn rfl
  have ct := cell_of_block (j := 0) ht rfl
  have cb := cell_of_block (j := toff + 3) (v := cs[toff + 3]) hc (by simp [hs])
  have fb := frozen_of_block (j := toff + 3) hc
  clear hn ht hc
  go_enter Tryz.func42, Tryz.ntmps42
  go_wp2
  go_region
  obtain ⟨W0, hW0⟩ : ∃ W0, W0 = ((w.setCell ⟨tb, toff + 3, none⟩ (.map (some w.heap.size))).alloc (.map #[] 0)).drew := ⟨_, rfl⟩
  rw [← hW0]
  have z0 : W0.heap.size = w.heap.size + 1 := by rw [hW0]; simp [World.drew]
  have g0 : w.grownBy W0 (some tb) := by
    rw [hW0]
    have := grownBy_trans (grownBy_set w tb (toff + 3) (.map (some w.heap.size))) (World.grownBy_alloc _ (.map #[] 0) _)
    exact ⟨this.os, this.tape, this.output, this.size, this.block⟩
  have HB0 : Hid (W0.heap[tb]? = some (.cells (cs.setIfInBounds (toff + 3) (.map (some w.heap.size))) T (0, 0))) := Lib.hid (by
    rw [hW0]
    exact (Below.heap_alloc _ _ _ (by simp; omega)).trans (block_set HC.out _))
  have M0 : W0.ownsMap Tryz.prog 44 (plainElem (H := Unit) Tryz.prog 3) w.heap.size 0 (.map []) := by
    have := World.ownsMap_made (w.setCell ⟨tb, toff + 3, none⟩ (.map (some w.heap.size))) Tryz.prog 44 (plainElem (H := Unit) Tryz.prog 3)
    rw [World.size_setCell] at this
    rw [hW0]
    exact this.drew
  clear hW0 cn ct cb fb
  have HZ0 := Lib.hid z0
  have y0 : w.heap.size + 1 ≤ W0.heap.size := by omega
  clear z0
  go_wp2_with (first | go_skip | (with_reducible refine stBS 22 ?_))
  refine ⟨bs1 rfl rfl (v := .int .u8 0) rfl (lit1 _ _) ?_⟩
  intro W1 z1 h1 b1
  have hz1 : View W1 (.slice (some ⟨W0.heap.size, 0, none⟩) 1 1) 1 1 (bv [0]) := by
    refine ⟨by simp [bv], .inr ⟨W0.heap.size, 0, 1, rfl, by simp [bv], Nat.le_refl _, by decide, by omega, fun j u hj => ?_⟩⟩
    rw [cell_of_row _ _ _ _ _ _ h1]
    simpa [bv] using hj
  have H1 := Lib.hid h1
  have HB1 := Lib.hid ((b1.block tb (by omega)).trans HB0.out)
  have M1 := own_kept M0 (b1.block w.heap.size (by omega))
  have g1 := grownBy_below g0 b1
  clear h1
  go_wp2_with (first | go_skip | (go_at_call 31; with_reducible refine stK ?_))
  refine ⟨(sum_spec _ 1 1 [0] W1 hz1 rfl).mono ?_⟩
  rintro e W2 ⟨rfl, b2⟩
  obtain ⟨no, hno⟩ : ∃ no, no = Crc.sum [0] := ⟨_, rfl⟩
  rw [← hno]
  have no1 : no < 4294967296 := by rw [hno]; exact Crc.sum_lt _
  have HNO := Lib.hid hno
  clear hno
  have H2 := Lib.hid ((b2.block W0.heap.size (by omega)).trans H1.out)
  have HB2 := Lib.hid ((b2.block tb (by omega)).trans HB1.out)
  have M2 := own_kept M1 (b2.block w.heap.size (by omega))
  have g2 := grownBy_below g1 b2
  have y2 := b2.size
  go_wp2_with (first | go_skip | (with_reducible refine stAl 112 ?_))
  refine ⟨al rfl 112 rfl (z := .agg (u32V (List.replicate 8 0))) (by kernel_rfl) ?_⟩
  intro W3 z3 h3 b3
  simp only [Value.cells] at h3
  obtain ⟨zb, hzb⟩ : ∃ zb, zb = W0.heap.size := ⟨_, rfl⟩
  obtain ⟨db, hdb⟩ : ∃ db, db = W2.heap.size := ⟨_, rfl⟩
  obtain ⟨cs1, hcs1⟩ : ∃ cs1, cs1 = cs.setIfInBounds (toff + 3) (.map (some w.heap.size)) := ⟨_, rfl⟩
  have S3 : FillSt w W3 tb w.heap.size zb db cs1 T 0 (.map []) (List.replicate 8 0) := by
    subst hzb
    subst hdb
    subst hcs1
    exact ⟨grownBy_below g2 b3, (b3.block tb (by omega)).trans HB2.out, own_kept M2 (b3.block _ (by omega)), (b3.block W0.heap.size (by omega)).trans H2.out, h3, by omega, by omega, by omega, by omega, by omega⟩
  rw [← hzb, ← hdb]
  clear h3 b3 z3 g2 M2 HB2 H2 y2 b2 g1 M1 HB1 H1 hz1 b1 z1 g0 M0 HB0 y0
  have HZB := Lib.hid hzb
  have HDB := Lib.hid hdb
  have HCS1 := Lib.hid hcs1
  clear hzb hdb hcs1
  go_wp2
  go_loopw [20] (fun i wr => ∃ k : Nat, k ≤ 8 ∧ i = .int .i64 k ∧ FillSt w wr tb w.heap.size zb db cs1 T 0 (.map []) ((List.range 8).map fun j => if j < k then Crc.made 0 j else 0)) (fun i _ => 8 - (intOf i).toNat)
  case atStart => exact ⟨0, by omega, rfl, S3⟩
  case round =>
    obtain ⟨k, hk, rfl, S⟩ := hrel
    by_cases hlt : k < 8
    · go_wp2_with (first | go_skip | (with_reducible refine stE 5 ?_))
      obtain ⟨p, hp⟩ : ∃ p, p = 2 ^ k := ⟨_, rfl⟩
      have p1 : p < 256 := by
        have : 2 ^ k ≤ 2 ^ 7 := Nat.pow_le_pow_right (by decide) (by omega)
        omega
      have HP := Lib.hid hp
      clear hp
      refine ⟨shl8 rfl rfl (k := k) rfl rfl hlt p HP.out.symm ?_⟩
      go_wp2_with (first | go_skip | (with_reducible refine stBS 22 ?_))
      refine ⟨bs1 rfl rfl (v := .int .u8 (p : Int)) rfl (lit1 _ _) ?_⟩
      intro V1 z1 h1 b1
      have hz1 : View V1 (.slice (some ⟨wr.heap.size, 0, none⟩) 1 1) 1 1 (bv [UInt8.ofNat p]) := by
        refine ⟨by simp [bv], .inr ⟨wr.heap.size, 0, 1, rfl, by simp [bv], Nat.le_refl _, by decide, by omega, fun j u hj => ?_⟩⟩
        rw [cell_of_row _ _ _ _ _ _ h1]
        have e : (UInt8.ofNat p).toNat = p := by simp; omega
        simpa [bv, e] using hj
      have S1 := S.below b1
      clear h1 b1 z1
      go_wp2_with (first | go_skip | (go_at_call 31; with_reducible refine stK ?_))
      refine ⟨(sum_spec _ 1 1 [UInt8.ofNat p] V1 hz1 rfl).mono ?_⟩
      rintro e V2 ⟨rfl, b2⟩
      have S2 := S1.below b2
      clear b2 hz1 S1
      obtain ⟨x, hx⟩ : ∃ x, x = Crc.sum [UInt8.ofNat p] := ⟨_, rfl⟩
      rw [← hx]
      have x1 : x < 4294967296 := by rw [hx]; exact Crc.sum_lt _
      obtain ⟨y, hy⟩ : ∃ y, y = x ^^^ no := ⟨_, rfl⟩
      have HY : Hid (y = Crc.made 0 k) := Lib.hid (by
        rw [hy, hx, HNO.out, made0]
        have e : (UInt8.ofNat p).toNat = p := by simp; omega
        rw [e, HP.out]
        rfl)
      have HXY := Lib.hid hy
      clear hx hy
      go_wp2_with (first | go_skip | (with_reducible refine stE 44 ?_))
      refine ⟨xor32 rfl rfl (p := x) (q := no) rfl rfl x1 no1 y HXY.out.symm ?_⟩
      go_wp2_with (first | go_skip | (with_reducible refine stI 112 ?_))
      refine ⟨idxA (size := 1) Tryz.underlying112 (by kernel_rfl) rfl (.tmp 4) (.tmp 23) rfl rfl (i := (k : Int)) rfl k rfl hlt ?_⟩
      rw [show 0 + k * 1 = k by omega]
      go_wp2_with (first | go_skip | (with_reducible refine stW 44 ?_))
      refine ⟨stCell rfl 44 (.tmp 30) (.tmp 29) rfl (b := db) (off := k) (v := .int .u32 (y : Int)) rfl S2.d rfl rfl (by kernel_rfl) (by simp [u32V]; omega) ?_⟩
      intro V3 z3 h3 g3
      rw [u32V_set, range_step 8 k y _ _ HY.out] at h3
      have S3 := S2.setD g3 h3
      clear h3 g3 z3 S2 S
      go_wp2
      go_roundw
      case rel => exact ⟨k + 1, by omega, by go_num, S3⟩
      case measure => simp [intOf]; omega
    · have hk8 : k = 8 := by omega
      subst hk8
      have Sx : FillSt w wr tb w.heap.size zb db cs1 T 0 (.map []) ((List.range 8).map (Crc.made 0)) := S
      clear S hlt hk
      have cn : wr.cell? ⟨pn, 0, none⟩ = some (.int .i64 n) := cell_of_block (j := 0) (Sx.old HN.out hne1) rfl
      go_wp2
      obtain ⟨Wa, rfl⟩ : ∃ Wa : World, Wa = wr := ⟨_, rfl⟩
      clear cn
      go_loopw [6] (fun i wr => ∃ (c : Nat) (v : Int), c ≤ n ∧ i = .int .i64 v ∧ Hid (v = (n : Int) - 1 - c) ∧ FillSt w wr tb w.heap.size zb db cs1 T (8 * c) (Crc.putAll (Crc.rows n c) (.map [])) ((List.range 8).map (Crc.made c))) (fun i _ => (intOf i + 1).toNat)
      case atStart => exact ⟨0, _, by omega, rfl, Lib.hid (by simp), Sx⟩
      case round =>
        obtain ⟨c, v, hc, rfl, hv, S⟩ := hrel
        by_cases hlt : c < n
        · have v0 : 0 ≤ v := by have := hv.out; omega
          have v1 : v ≤ 4096 := by have := hv.out; omega
          obtain ⟨Wb, rfl⟩ : ∃ Wb : World, Wb = wr := ⟨_, rfl⟩
          obtain ⟨L0, hL0⟩ : ∃ L0, L0 = ((List.range 8).map (Crc.made c)).map fun v : Nat => Value.int .u32 (v : Int) := ⟨_, rfl⟩
          have hLl : L0.length = 8 := by rw [hL0]; simp
          have HL0 := Lib.hid hL0
          clear hL0
          go_wp2_with (first | go_skip | (with_reducible refine stL 112 ?_))
          refine ⟨ldRow rfl 112 (.tmp 4) rfl (b := db) (off := 0) rfl L0 (fun j u hj => by
            rw [cell_of_row _ _ _ _ _ _ S.d, Nat.zero_add]
            unfold u32V
            rw [List.getElem?_toArray, ← HL0.out]
            exact hj) Tryz.underlying112 rfl (by rw [hLl]; kernel_rfl) ?_⟩
          have HLl := Lib.hid hLl
          clear hLl
          go_wp2
          go_loopw [39] (fun i wr => ∃ k : Nat, k ≤ 8 ∧ i = .int .i64 k ∧ FillSt w wr tb w.heap.size zb db cs1 T (8 * c + k) (Crc.putAll (Crc.rows n c ++ Crc.rowOf n c k) (.map [])) ((List.range 8).map fun j => if j < k then Crc.made (c + 1) j else Crc.made c j)) (fun i _ => 8 - (intOf i).toNat)
          case atStart => exact ⟨0, by omega, rfl, by simpa [Crc.rowOf] using S⟩
          case round =>
            obtain ⟨k, hk, rfl, S⟩ := hrel
            by_cases hkt : k < 8
            · obtain ⟨d, hd⟩ : ∃ d, d = Crc.made c k := ⟨_, rfl⟩
              have d1 : d < 4294967296 := by rw [hd]; exact Crc.made_lt c k hkt
              have hxs : L0.toArray[k]? = some (.int .u32 (d : Int)) := by
                rw [List.getElem?_toArray, HL0.out, hd]
                simp [hkt]
              have HD := Lib.hid hd
              clear hd
              go_wp2_with (first | go_skip | (with_reducible refine stX 112 ?_))
              refine ⟨idxV Tryz.underlying112 (by kernel_rfl) (by kernel_rfl) rfl (.tmp 38) (.tmp 39) rfl rfl (i := (k : Int)) rfl k rfl hkt (.int .u32 (d : Int)) hxs ?_⟩
              have ct : wr.cell? ⟨pt, 0, none⟩ = some (.pointer (some ⟨tb, toff, none⟩)) := cell_of_block (j := 0) (S.old HT.out hne2) rfl
              have cb : wr.cell? ⟨tb, toff + 3, none⟩ = some (.map (some w.heap.size)) := by
                rw [cell_of_row _ _ _ _ _ _ S.hb, HCS1.out]
                simp [hs]
              have hxs' := Lib.hid hxs
              clear hxs
              go_wp2_with (first | go_skip | (with_reducible refine stMU ?_))
              have ej : 8 * v + (k : Int) = ((8 * (n - 1 - c) + k : Nat) : Int) := by have := hv.out; omega
              have EJ := Lib.hid ej
              clear ej
              refine ⟨wpList_mapUpdate_own wr rfl (.tmp 46) (.tmp 47) (.tmp 51) 53 rfl 44 3 law32 Tryz.underlying53 (plainElem (H := Unit) Tryz.prog 3) w.heap.size (8 * c + k) _ rfl S.m (by unfold maxLen; omega)
                (.int .u32 (d : Int)) (.int .i64 (8 * v + (k : Int))) (.int .u32 (d : Int)) rfl rfl (keyOf_int_mk Tryz.underlying44 (wf32 d1)) (.lit (.int .i64 (8 * v + (k : Int)))) [] (plainElem_int Tryz.underlying3 (wf64 (by omega) (by omega))) ?_⟩
              intro V1 hown1 hg1
              have hown2 : V1.ownsMap Tryz.prog 44 (plainElem (H := Unit) Tryz.prog 3) w.heap.size (8 * c + (k + 1)) (Crc.putAll (Crc.rows n c ++ Crc.rowOf n c (k + 1)) (.map [])) := by
                rw [Crc.rowOf_succ, ← List.append_assoc, Crc.putAll_one, ← EJ.out, ← HD.out]
                exact hown1
              have S1 := S.put hg1 hown2
              clear hown1 hown2 hg1 ct cb S
              go_wp2_with (first | go_skip | (go_at_call 43; with_reducible refine stK ?_))
              refine ⟨(update_spec d _ 1 1 [0] V1 d1 S1.zero rfl).mono ?_⟩
              rintro e V2 ⟨rfl, b2⟩
              have S2 := S1.below b2
              clear b2 S1
              obtain ⟨x, hx⟩ : ∃ x, x = Crc.update d [0] := ⟨_, rfl⟩
              rw [← hx]
              have x1 : x < 4294967296 := by rw [hx]; exact Crc.inv_lt _
              obtain ⟨y, hy⟩ : ∃ y, y = x ^^^ no := ⟨_, rfl⟩
              have HY : Hid (y = Crc.made (c + 1) k) := Lib.hid (by rw [hy, hx, HNO.out, made1 _ d1, HD.out, Crc.made_succ])
              have HXY := Lib.hid hy
              clear hx hy
              go_wp2_with (first | go_skip | (with_reducible refine stE 44 ?_))
              refine ⟨xor32 rfl rfl (p := x) (q := no) rfl rfl x1 no1 y HXY.out.symm ?_⟩
              go_wp2_with (first | go_skip | (with_reducible refine stI 112 ?_))
              refine ⟨idxA (size := 1) Tryz.underlying112 (by kernel_rfl) rfl (.tmp 4) (.tmp 52) rfl rfl (i := (k : Int)) rfl k rfl hkt ?_⟩
              rw [show 0 + k * 1 = k by omega]
              go_wp2_with (first | go_skip | (with_reducible refine stW 44 ?_))
              refine ⟨stCell rfl 44 (.tmp 58) (.tmp 57) rfl (b := db) (off := k) (v := .int .u32 (y : Int)) rfl S2.d rfl rfl (by kernel_rfl) (by simp [u32V]; omega) ?_⟩
              intro V3 z3 h3 g3
              rw [u32V_set, range_step 8 k y _ _ HY.out] at h3
              have S3 := S2.setD g3 h3
              clear h3 g3 z3 S2
              go_wp2
              go_roundw
              case rel => exact ⟨k + 1, by omega, by go_num, S3⟩
              case measure => simp [intOf]; omega
            · have hk8 : k = 8 := by omega
              subst hk8
              have Sy : FillSt w wr tb w.heap.size zb db cs1 T (8 * (c + 1)) (Crc.putAll (Crc.rows n (c + 1)) (.map [])) ((List.range 8).map (Crc.made (c + 1))) := S
              clear S
              go_wp2
              go_roundw
              case rel =>
                have HV : Hid (v - 1 = (n : Int) - 1 - ((c + 1 : Nat) : Int)) := Lib.hid (by have := hv.out; omega)
                have hc1 : c + 1 ≤ n := by omega
                (repeat apply Exists.intro); exact ⟨⟨c + 1, v - 1, hc1, rfl, HV, Sy⟩, rfl⟩
              case measure => simp [intOf]; omega
        · have hcn : c = n := by omega
          have v0 : v < 0 := by have := hv.out; omega
          have v0' : decide (0 ≤ v) = false := by simpa using v0
          rw [hcn] at S
          clear hv hc hlt hcn
          go_wp2
          obtain ⟨Wc, rfl⟩ : ∃ Wc : World, Wc = wr := ⟨_, rfl⟩
          go_loopw [60] (fun i wr => ∃ k : Nat, k ≤ 32 ∧ i = .int .i64 k ∧ FillSt w wr tb w.heap.size zb db cs1 T (8 * n + k) (Crc.putAll (Crc.rows n n ++ Crc.tail n k) (.map [])) ((List.range 8).map (Crc.made n))) (fun i _ => 32 - (intOf i).toNat)
          case atStart => exact ⟨0, by omega, rfl, by simpa [Crc.tail] using S⟩
          case round =>
            obtain ⟨k, hk, rfl, S⟩ := hrel
            by_cases hkt : k < 32
            · have ct : wr.cell? ⟨pt, 0, none⟩ = some (.pointer (some ⟨tb, toff, none⟩)) := cell_of_block (j := 0) (S.old HT.out hne2) rfl
              have cb : wr.cell? ⟨tb, toff + 3, none⟩ = some (.map (some w.heap.size)) := by
                rw [cell_of_row _ _ _ _ _ _ S.hb, HCS1.out]
                simp [hs]
              have cn : wr.cell? ⟨pn, 0, none⟩ = some (.int .i64 n) := cell_of_block (j := 0) (S.old HN.out hne1) rfl
              go_wp2
              go_still_tail 10, (by kernel_rfl)
              have S1 := S.drew
              change wpList _ _ _ _ _ wr.drew
              generalize wr.drew = V0 at S1 ⊢
              have e2 : IntKind.u32.wrap ((2 : Int) ^ k) = ((2 ^ k : Nat) : Int) := by
                have h31 : 2 ^ k ≤ 2 ^ 31 := Nat.pow_le_pow_right (by decide) (by omega)
                have hq : ∀ q : Nat, q ≤ 2 ^ 31 → IntKind.u32.wrap (q : Int) = q := fun q hq => by rw [IntKind.wrap_u32']; omega
                rw [show ((2 : Int) ^ k) = ((2 ^ k : Nat) : Int) by simp]
                exact hq _ h31
              have e1 : IntKind.i64.wrap (8 * (n : Int)) = 8 * (n : Int) := IntWalk.i64_in _ (by omega)
              have e3 : IntKind.i64.wrap (IntKind.i64.wrap (8 * (n : Int)) + (k : Int)) = ((8 * n + k : Nat) : Int) := by
                rw [e1, IntWalk.i64_in _ (by omega)]
                omega
              have l2 : 2 ^ k < 4294967296 := by
                have : 2 ^ k ≤ 2 ^ 31 := Nat.pow_le_pow_right (by decide) (by omega)
                omega
              refine wpList_mapUpdate_own V0 rfl (.tmp 66) (.tmp 68) (.tmp 72) 53 rfl 44 3 law32 Tryz.underlying53 (plainElem (H := Unit) Tryz.prog 3) w.heap.size (8 * n + k) _ rfl S1.m (by unfold maxLen; omega)
                (.int .u32 (IntKind.u32.wrap ((2 : Int) ^ k))) (.int .i64 (IntKind.i64.wrap (IntKind.i64.wrap (8 * (n : Int)) + (k : Int)))) (.int .u32 (IntKind.u32.wrap ((2 : Int) ^ k))) rfl rfl (keyOf_int_mk Tryz.underlying44 (by rw [e2]; exact wf32 l2)) (.lit (.int .i64 (IntKind.i64.wrap (IntKind.i64.wrap (8 * (n : Int)) + (k : Int))))) [] (plainElem_int Tryz.underlying3 (by rw [e3]; exact wf64 (by omega) (by omega))) ?_
              intro V1 hown1 hg1
              have hown2 : V1.ownsMap Tryz.prog 44 (plainElem (H := Unit) Tryz.prog 3) w.heap.size (8 * n + (k + 1)) (Crc.putAll (Crc.rows n n ++ Crc.tail n (k + 1)) (.map [])) := by
                rw [Crc.tail_succ, ← List.append_assoc, Crc.putAll_one]
                rw [e2, e3] at hown1
                exact hown1
              have S2 := S1.put hg1 hown2
              clear hown1 hown2 hg1 ct cb cn S S1 e1 e2 e3 l2
              go_wp2
              go_roundw
              case rel =>
                have hk1 : k + 1 ≤ 32 := by omega
                have e9 : Value.int .i64 ((k : Int) + 1) = .int .i64 ((k + 1 : Nat) : Int) := by go_num
                (repeat apply Exists.intro); exact ⟨⟨k + 1, hk1, e9, S2⟩, rfl⟩
              case measure => simp [intOf]; omega
            · have hk8 : k = 32 := by omega
              subst hk8
              go_wp2
              go_end0
              exact ⟨w.heap.size, rfl, S.g, Nat.le_refl _, by rw [← HCS1.out]; exact S.hb, S.m⟩
end Go.Proofs.YtjnfijnfjblbnaaGreatDoor
