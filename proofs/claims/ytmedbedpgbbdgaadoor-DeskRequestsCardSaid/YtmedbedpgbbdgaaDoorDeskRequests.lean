/- The walk of DeskRequests: whatever the request, it returns true. -/
import Derived.Test.YtmedbedpgbbdgaaDoorDeskAll2
import Derived.Test.YtmedbedpgbbdgaaDoorDeskSame
import Derived.Test.YtmedbedpgbbdgaaDoorDeskFrames
namespace Go.Proofs.YtmedbedpgbbdgaaDoor
open Go.RowKit
set_option linter.unusedVariables false

/-- A slice with its two bytes of room behind it, in blocks from 'lo' on. -/
def RV (W : World) (p : Option Addr) (n c : Nat) (l : List UInt8) (lo : Nat) : Prop :=
  View W (.slice p n c) n 1 (bv (l ++ [165, 90])) ∧ l.length = n ∧ ∀ k, (Value.slice p n c).ownBlock = some k → lo ≤ k

theorem RV.of_own {W : World} {p : Option Addr} {n c B : Nat} {e : TypeId} {l : List UInt8} (h : W.ownsRow B e 1 (.slice p (n + 2) c) (n + 2) (bv (l.take n ++ [165, 90]))) (hl : l.length = n) : RV W p n c l B := by
  have hc := (own_cap h).2
  rw [take_all hl] at h
  refine ⟨?_, hl, fun k hk => (h.lt k (by rw [own_slice p (n + 2) c n c]; exact hk)).1⟩
  have := (View.own h).cut0 n c (by omega) (Nat.le_refl _) (by simp [bv]; omega)
  rwa [List.take_of_length_le (by simp [bv, hl]; omega)] at this
theorem RV.below {W W' : World} {p : Option Addr} {n c lo : Nat} {l : List UInt8} (h : RV W p n c l lo) (hb : Below W.heap.size W W') : RV W' p n c l lo := ⟨h.1.below hb, h.2⟩
theorem RV.grown {W W' : World} {p : Option Addr} {n c lo b : Nat} {l : List UInt8} (h : RV W p n c l lo) (hg : W.grownBy W' (some b)) (hb : b < lo) : RV W' p n c l lo :=
  ⟨h.1.grown hg (fun k hk e => by have := h.2.2 k hk; cases e; omega), h.2⟩
theorem RV.view {W : World} {p : Option Addr} {n c lo : Nat} {l : List UInt8} (h : RV W p n c l lo) : View W (.slice p n c) n 1 (bv l) := by
  have := h.1.trim
  rwa [Nat.mul_one, bv_take, List.take_append_of_le_length (by rw [h.2.1]; exact Nat.le_refl _), take_all h.2.1] at this
theorem View.kept {W W' : World} {v : Value} {n size b : Nat} {xs : List Value} (h : View W v n size xs) (hg : W.grownBy W' (some b)) (hne : ∀ k, v.ownBlock = some k → k < b) : View W' v n size xs :=
  h.grown hg (fun k hk e => by have := hne k hk; cases e; omega)
theorem take_room {l : List UInt8} {n : Nat} (h : l.length = n) : (l ++ [165, 90]).take n = l := by
  rw [List.take_append_of_le_length (by omega), take_all h]

theorem same_true (p q : Option Addr) (n c m d : Nat) (l r : List UInt8) (w : World) (hp : View w (.slice p n c) n 1 (bv l)) (hq : View w (.slice q m d) m 1 (bv r)) (h : l.take n = r.take m) :
    Calls Tryd.prog 9 #[.slice p n c, .slice q m d] w fun e w' => e = .returned (.bool true) ∧ w = w' :=
  (same_spec p q n c m d l r w hp hq).mono fun e w' ⟨he, hw⟩ => ⟨by rw [he, h]; simp, hw⟩

set_option maxHeartbeats 8000000 in
set_option maxRecDepth 100000 in
theorem requests_true (op ver oth lim : Int) (pk ph pb : Option Addr) (nk ck nh ch nb cb : Nat) (key high batch : List UInt8) (w : World)
    (hk : View w (.slice pk nk ck) nk 1 (bv key)) (lk : key.length = nk) (hh : View w (.slice ph nh ch) nh 1 (bv high)) (lh : high.length = nh) (hb : View w (.slice pb nb cb) nb 1 (bv batch)) (lb : batch.length = nb)
    (mk : nk + 2 ≤ 140737488355328) (mh : nh + 2 ≤ 140737488355328) (mb : nb + 2 ≤ 140737488355328)
    (hg : 2 < w.heap.size) (hs : Cells w 2 0 shapeCells) :
    Calls Tryd.prog 3 #[.agg #[.int .i64 op, .int .i64 ver, .int .i64 oth, .int .i64 lim, .slice pk nk ck, .slice ph nh ch, .slice pb nb cb]] w fun e w' => e = .returned (.bool true) ∧ Below w.heap.size w w' := by
  have lK := Lib.hid lk
  have lH := Lib.hid lh
  have lB := Lib.hid lb
  clear lk lh lb
  go_enter Tryd.func3, Tryd.ntmps3
  go_wp2_with (with_reducible refine stB 24 ?_)
  refine ⟨bx rfl 24 (.tmp 0) rfl (v := .agg #[.int .i64 op, .int .i64 ver, .int .i64 oth, .int .i64 lim, .slice pk nk ck, .slice ph nh ch, .slice pb nb cb]) rfl ?_⟩
  intro W1 z1 h1 b1
  simp only [Value.cells] at h1
  obtain ⟨cA, fA⟩ := live h1
  have H1 := Lib.hid h1
  clear h1
  go_wp2_with (with_reducible refine stAl 24 ?_)
  refine ⟨al rfl 24 rfl (z := .agg #[.int .i64 0, .int .i64 0, .int .i64 0, .int .i64 0, .slice none 0 0, .slice none 0 0, .slice none 0 0]) (by kernel_rfl) ?_⟩
  intro W2 z2 h2 b2
  simp only [Value.cells] at h2
  rw [z1] at h2
  clear cA fA
  go_wp2_with (with_reducible refine stW 24 ?_)
  refine ⟨stRow rfl 24 (.tmp 3) (.tmp 11) rfl rfl h2 (c' := #[.int .i64 op, .int .i64 ver, .int .i64 oth, .int .i64 lim, .slice pk nk ck, .slice ph nh ch, .slice pb nb cb]) rfl (by kernel_rfl) rfl (by simp [Value.oneCell']) ?_⟩
  clear h2
  intro W3 z3 h3 g3
  have b3 : Below W1.heap.size W1 W3 := b2.grown g3 (by omega) (by simp [z1])
  have bb := b1.trans (b3.mono (by omega))
  have Hq := Lib.hid ((b3.block w.heap.size (by omega)).trans H1.out)
  have Hm := Lib.hid h3
  clear h3 H1
  have kA := hk.below bb
  have hA := hh.below bb
  have bA := hb.below bb
  have kl := hk.lt
  have hl := hh.lt
  have bl := hb.lt
  obtain ⟨cA, fA⟩ := live Hq.out
  go_wp2_with (go_at_call 6; with_reducible refine stK ?_)
  refine ⟨(roomy_spec pk nk ck key W3 kA mk).mono ?_⟩
  rintro e W4 ⟨pk', ck', rfl, b4, o4⟩
  clear cA fA
  have Rk := RV.of_own o4 lK.out
  clear o4
  have s4 := b4.size
  have t4 := bb.size
  have Hm' := Lib.hid ((b4.block (w.heap.size + 1) (by omega)).trans Hm.out)
  go_wp2_with (with_reducible refine stW 22 ?_)
  refine ⟨stCell rfl 22 (.tmp 15) (.tmp 14) rfl rfl Hm'.out (v := .slice pk' nk ck') rfl rfl (by kernel_rfl) (by simp) ?_⟩
  intro W5 z5 h5 g5
  have b5 : Below w.heap.size w W5 := (bb.trans (b4.mono (by omega))).grown g5 (by omega) (by simp)
  have Hq' : W5.heap[w.heap.size]? = _ := (g5.block w.heap.size (by omega) (by simp)).trans ((b4.block w.heap.size (by omega)).trans Hq.out)
  have h5' : W5.heap[w.heap.size + 1]? = some (.cells #[.int .i64 op, .int .i64 ver, .int .i64 oth, .int .i64 lim, .slice pk' nk ck', .slice ph nh ch, .slice pb nb cb] 24 (0, 0)) := h5
  replace Hq := Lib.hid Hq'
  replace Hm := Lib.hid h5'
  clear Hq' Hm' h5 h5'
  replace bb := b5
  replace kA := (kA.below b4).kept g5 (fun k hk => by have := kl k hk; omega)
  replace hA := (hA.below b4).kept g5 (fun k hk => by have := hl k hk; omega)
  replace bA := (bA.below b4).kept g5 (fun k hk => by have := bl k hk; omega)
  replace Rk := Rk.grown g5 (by omega)
  clear b4 b5 g5
  obtain ⟨cA, fA⟩ := live Hq.out
  go_wp2_with (go_at_call 6; with_reducible refine stK ?_)
  refine ⟨(roomy_spec ph nh ch high W5 hA mh).mono ?_⟩
  rintro e W6 ⟨ph', ch', rfl, b6, o6⟩
  clear cA fA
  have Rh := RV.of_own o6 lH.out
  clear o6
  have s6 := b6.size
  have t6 := bb.size
  have Hm' := Lib.hid ((b6.block (w.heap.size + 1) (by omega)).trans Hm.out)
  go_wp2_with (with_reducible refine stW 22 ?_)
  refine ⟨stCell rfl 22 (.tmp 19) (.tmp 18) rfl rfl Hm'.out (v := .slice ph' nh ch') rfl rfl (by kernel_rfl) (by simp) ?_⟩
  intro W7 z7 h7 g7
  have b7 : Below w.heap.size w W7 := (bb.trans (b6.mono (by omega))).grown g7 (by omega) (by simp)
  have Hq' : W7.heap[w.heap.size]? = _ := (g7.block w.heap.size (by omega) (by simp)).trans ((b6.block w.heap.size (by omega)).trans Hq.out)
  have h7' : W7.heap[w.heap.size + 1]? = some (.cells #[.int .i64 op, .int .i64 ver, .int .i64 oth, .int .i64 lim, .slice pk' nk ck', .slice ph' nh ch', .slice pb nb cb] 24 (0, 0)) := h7
  replace Hq := Lib.hid Hq'
  replace Hm := Lib.hid h7'
  clear Hq' Hm' h7 h7'
  replace bb := b7
  replace kA := (kA.below b6).kept g7 (fun k hk => by have := kl k hk; omega)
  replace hA := (hA.below b6).kept g7 (fun k hk => by have := hl k hk; omega)
  replace bA := (bA.below b6).kept g7 (fun k hk => by have := bl k hk; omega)
  replace Rk := (Rk.below b6).grown g7 (by omega)
  replace Rh := Rh.grown g7 (by omega)
  clear b6 b7 g7
  obtain ⟨cA, fA⟩ := live Hq.out
  go_wp2_with (go_at_call 6; with_reducible refine stK ?_)
  refine ⟨(roomy_spec pb nb cb batch W7 bA mb).mono ?_⟩
  rintro e W8 ⟨pb', cb', rfl, b8, o8⟩
  clear cA fA
  have Rb := RV.of_own o8 lB.out
  clear o8
  have s8 := b8.size
  have t8 := bb.size
  have Hm' := Lib.hid ((b8.block (w.heap.size + 1) (by omega)).trans Hm.out)
  go_wp2_with (with_reducible refine stW 22 ?_)
  refine ⟨stCell rfl 22 (.tmp 23) (.tmp 22) rfl rfl Hm'.out (v := .slice pb' nb cb') rfl rfl (by kernel_rfl) (by simp) ?_⟩
  intro W9 z9 h9 g9
  have b9 : Below w.heap.size w W9 := (bb.trans (b8.mono (by omega))).grown g9 (by omega) (by simp)
  have Hq' : W9.heap[w.heap.size]? = _ := (g9.block w.heap.size (by omega) (by simp)).trans ((b8.block w.heap.size (by omega)).trans Hq.out)
  have h9' : W9.heap[w.heap.size + 1]? = some (.cells #[.int .i64 op, .int .i64 ver, .int .i64 oth, .int .i64 lim, .slice pk' nk ck', .slice ph' nh ch', .slice pb' nb cb'] 24 (0, 0)) := h9
  replace Hq := Lib.hid Hq'
  replace Hm := Lib.hid h9'
  clear Hq' Hm' h9 h9'
  replace bb := b9
  replace kA := (kA.below b8).kept g9 (fun k hk => by have := kl k hk; omega)
  replace hA := (hA.below b8).kept g9 (fun k hk => by have := hl k hk; omega)
  replace bA := (bA.below b8).kept g9 (fun k hk => by have := bl k hk; omega)
  replace Rk := (Rk.below b8).grown g9 (by omega)
  replace Rh := (Rh.below b8).grown g9 (by omega)
  replace Rb := Rb.grown g9 (by omega)
  clear b8 b9 g9
  obtain ⟨cB, fB⟩ := live Hm.out
  go_wp2_with (go_at_call 7; with_reducible refine stK ?_)
  clear cB fB
  have u9 := bb.size
  have w9 : w.heap.size + 1 < W9.heap.size := by have := (Array.getElem?_eq_some_iff.1 Hm.out).1; exact this
  refine ⟨(enc_all op ver oth lim pk' ph' pb' nk ck' nh ch' nb cb' key high batch W9 Rk.view lK.out Rh.view lH.out Rb.view lB.out (by omega) (hs.below hg bb)).mono ?_⟩
  rintro e W10 (⟨hE, rfl, b10⟩ | ⟨L, p1, c1, hE, rfl, o10, b10⟩)
  · replace hE := Lib.hid hE
    have s10 := b10.size
    have s10 := bb.size
    replace bb := bb.trans (b10.mono (by omega))
    replace Hq := Lib.hid ((b10.block w.heap.size (by omega)).trans Hq.out)
    replace Hm := Lib.hid ((b10.block (w.heap.size + 1) (by omega)).trans Hm.out)
    replace kA := kA.below b10
    replace Rk := Rk.below b10
    replace hA := hA.below b10
    replace Rh := Rh.below b10
    replace bA := bA.below b10
    replace Rb := Rb.below b10
    obtain ⟨cA, fA⟩ := live Hq.out
    go_wp2_with (go_at_call 8; with_reducible refine stK ?_)
    clear cA fA
    refine ⟨(req_all op ver oth lim pk ph pb nk ck nh ch nb cb key high batch W10 kA lK.out hA lH.out bA lB.out).mono ?_⟩
    rintro e W11 (⟨_, rfl, b11⟩ | ⟨L', p2, c2, hF, _⟩)
    rotate_left
    · rw [hE.out] at hF; cases hF
    have s11 := b11.size
    replace bb := bb.trans (b11.mono (by omega))
    replace Hq := Lib.hid ((b11.block w.heap.size (by omega)).trans Hq.out)
    replace Hm := Lib.hid ((b11.block (w.heap.size + 1) (by omega)).trans Hm.out)
    replace kA := kA.below b11
    replace Rk := Rk.below b11
    replace hA := hA.below b11
    replace Rh := Rh.below b11
    replace bA := bA.below b11
    replace Rb := Rb.below b11
    go_wp2_with (first | go_skip | (go_at_call 9; with_reducible refine stK ?_))
    refine ⟨(same_true none none 0 0 0 0 [] [] W11 (View.nil _ _) (View.nil _ _) rfl).mono ?_⟩
    rintro e w' ⟨rfl, rfl⟩
    obtain ⟨cA, fA⟩ := live Hq.out
    obtain ⟨cB, fB⟩ := live Hm.out
    go_wp2_with (first | go_skip | (go_at_call 10; with_reducible refine stK ?_))
    refine ⟨(sameReq_true op ver oth lim pk' ph' pb' pk ph pb nk ck' nh ch' nb cb' nk ck nh ch nb cb key high batch key high batch W11 Rk.view Rh.view Rb.view kA hA bA rfl rfl rfl).mono ?_⟩
    rintro e W12 ⟨rfl, b12⟩
    clear cA fA cB fB
    have s12 := b12.size
    replace bb := bb.trans (b12.mono (by omega))
    replace Hq := Lib.hid ((b12.block w.heap.size (by omega)).trans Hq.out)
    replace Hm := Lib.hid ((b12.block (w.heap.size + 1) (by omega)).trans Hm.out)
    replace kA := kA.below b12
    replace Rk := Rk.below b12
    replace hA := hA.below b12
    replace Rh := Rh.below b12
    replace bA := bA.below b12
    replace Rb := Rb.below b12
    obtain ⟨cA, fA⟩ := live Hq.out
    obtain ⟨cB, fB⟩ := live Hm.out
    go_wp2_with (first | go_skip | (go_at_call 11; with_reducible refine stK ?_))
    refine ⟨(untouched_true pk' pk nk ck' ck key key W12 Rk.1 lK.out kA (take_all lK.out)).mono ?_⟩
    rintro e W13 ⟨rfl, b13⟩
    clear cA fA cB fB
    have s13 := b13.size
    replace bb := bb.trans (b13.mono (by omega))
    replace Hq := Lib.hid ((b13.block w.heap.size (by omega)).trans Hq.out)
    replace Hm := Lib.hid ((b13.block (w.heap.size + 1) (by omega)).trans Hm.out)
    replace kA := kA.below b13
    replace Rk := Rk.below b13
    replace hA := hA.below b13
    replace Rh := Rh.below b13
    replace bA := bA.below b13
    replace Rb := Rb.below b13
    obtain ⟨cA, fA⟩ := live Hq.out
    obtain ⟨cB, fB⟩ := live Hm.out
    go_wp2_with (first | go_skip | (go_at_call 11; with_reducible refine stK ?_))
    refine ⟨(untouched_true ph' ph nh ch' ch high high W13 Rh.1 lH.out hA (take_all lH.out)).mono ?_⟩
    rintro e W14 ⟨rfl, b14⟩
    clear cA fA cB fB
    have s14 := b14.size
    replace bb := bb.trans (b14.mono (by omega))
    replace Hq := Lib.hid ((b14.block w.heap.size (by omega)).trans Hq.out)
    replace Hm := Lib.hid ((b14.block (w.heap.size + 1) (by omega)).trans Hm.out)
    replace kA := kA.below b14
    replace Rk := Rk.below b14
    replace hA := hA.below b14
    replace Rh := Rh.below b14
    replace bA := bA.below b14
    replace Rb := Rb.below b14
    obtain ⟨cA, fA⟩ := live Hq.out
    obtain ⟨cB, fB⟩ := live Hm.out
    go_wp2_with (first | go_skip | (go_at_call 11; with_reducible refine stK ?_))
    refine ⟨(untouched_true pb' pb nb cb' cb batch batch W14 Rb.1 lB.out bA (take_all lB.out)).mono ?_⟩
    rintro e W15 ⟨rfl, b15⟩
    clear cA fA cB fB
    have s15 := b15.size
    replace bb := bb.trans (b15.mono (by omega))
    replace Hq := Lib.hid ((b15.block w.heap.size (by omega)).trans Hq.out)
    replace Hm := Lib.hid ((b15.block (w.heap.size + 1) (by omega)).trans Hm.out)
    replace kA := kA.below b15
    replace Rk := Rk.below b15
    replace hA := hA.below b15
    replace Rh := Rh.below b15
    replace bA := bA.below b15
    replace Rb := Rb.below b15
    clear kA hA bA Rk Rh Rb
    go_wp2_with (go_at_call 7; with_reducible refine stK ?_)
    refine ⟨(enc_all 8 0 0 0 none none none 0 0 0 0 0 0 [] [] [] W15 (View.nil _ _) rfl (View.nil _ _) rfl (View.nil _ _) rfl (by omega) (hs.below hg bb)).mono ?_⟩
    rintro e W16 (⟨h16, _⟩ | ⟨L, p3, c3, h16, rfl, o16, b16⟩)
    · simp [encS] at h16
    obtain rfl : L = [8] := by simpa [encS] using h16.symm
    clear h16
    have V3 := View.own o16
    have bf := bb.trans (b16.mono (by omega))
    simp only [List.length_singleton] at V3 ⊢
    go_wp2_with (first | go_skip | (with_reducible refine stIg 22 ?_))
    refine ⟨idx sk22 rfl (.tmp 88) (.const (.int .i64 0)) rfl (y := p3) (n := 1) (c := c3) rfl V3 rfl 0 rfl (by decide) ?_⟩
    intro b off hcell _
    have c0 : W16.cell? ⟨b, off, none⟩ = some (.int .u8 8) := hcell 0 (.int .u8 8) rfl
    clear hcell
    go_wp2
    go_ret
    exact ⟨rfl, bf⟩
  · have hE' : encS ⟨op, ver, oth, lim, key, high, batch⟩ = some L := hE
    replace hE := Lib.hid hE'
    have V1 := View.own o10
    clear o10
    have s10 := b10.size
    have s10 := bb.size
    replace bb := bb.trans (b10.mono (by omega))
    replace Hq := Lib.hid ((b10.block w.heap.size (by omega)).trans Hq.out)
    replace Hm := Lib.hid ((b10.block (w.heap.size + 1) (by omega)).trans Hm.out)
    replace kA := kA.below b10
    replace Rk := Rk.below b10
    replace hA := hA.below b10
    replace Rh := Rh.below b10
    replace bA := bA.below b10
    replace Rb := Rb.below b10
    obtain ⟨cA, fA⟩ := live Hq.out
    go_wp2_with (go_at_call 8; with_reducible refine stK ?_)
    clear cA fA
    refine ⟨(req_all op ver oth lim pk ph pb nk ck nh ch nb cb key high batch W10 kA lK.out hA lH.out bA lB.out).mono ?_⟩
    rintro e W11 (⟨hF, _⟩ | ⟨L', p2, c2, hF, rfl, o11, b11⟩)
    · rw [hE.out] at hF; cases hF
    obtain rfl : L = L' := by rw [hE.out] at hF; exact Option.some.inj hF
    clear hF
    have V2 := View.own o11
    clear o11
    replace V1 := V1.below b11
    have s11 := b11.size
    replace bb := bb.trans (b11.mono (by omega))
    replace Hq := Lib.hid ((b11.block w.heap.size (by omega)).trans Hq.out)
    replace Hm := Lib.hid ((b11.block (w.heap.size + 1) (by omega)).trans Hm.out)
    replace kA := kA.below b11
    replace Rk := Rk.below b11
    replace hA := hA.below b11
    replace Rh := Rh.below b11
    replace bA := bA.below b11
    replace Rb := Rb.below b11
    go_wp2_with (first | go_skip | (go_at_call 9; with_reducible refine stK ?_))
    refine ⟨(same_true p1 p2 L.length c1 L.length c2 L L W11 V1 V2 rfl).mono ?_⟩
    rintro e w' ⟨rfl, rfl⟩
    obtain ⟨cA, fA⟩ := live Hq.out
    obtain ⟨cB, fB⟩ := live Hm.out
    go_wp2_with (first | go_skip | (go_at_call 10; with_reducible refine stK ?_))
    refine ⟨(sameReq_true op ver oth lim pk' ph' pb' pk ph pb nk ck' nh ch' nb cb' nk ck nh ch nb cb key high batch key high batch W11 Rk.view Rh.view Rb.view kA hA bA rfl rfl rfl).mono ?_⟩
    rintro e W12 ⟨rfl, b12⟩
    clear cA fA cB fB
    have s12 := b12.size
    replace bb := bb.trans (b12.mono (by omega))
    replace Hq := Lib.hid ((b12.block w.heap.size (by omega)).trans Hq.out)
    replace Hm := Lib.hid ((b12.block (w.heap.size + 1) (by omega)).trans Hm.out)
    replace kA := kA.below b12
    replace Rk := Rk.below b12
    replace hA := hA.below b12
    replace Rh := Rh.below b12
    replace bA := bA.below b12
    replace Rb := Rb.below b12
    replace V1 := V1.below b12
    replace V2 := V2.below b12
    obtain ⟨cA, fA⟩ := live Hq.out
    obtain ⟨cB, fB⟩ := live Hm.out
    go_wp2_with (first | go_skip | (go_at_call 11; with_reducible refine stK ?_))
    refine ⟨(untouched_true pk' pk nk ck' ck key key W12 Rk.1 lK.out kA (take_all lK.out)).mono ?_⟩
    rintro e W13 ⟨rfl, b13⟩
    clear cA fA cB fB
    have s13 := b13.size
    replace bb := bb.trans (b13.mono (by omega))
    replace Hq := Lib.hid ((b13.block w.heap.size (by omega)).trans Hq.out)
    replace Hm := Lib.hid ((b13.block (w.heap.size + 1) (by omega)).trans Hm.out)
    replace kA := kA.below b13
    replace Rk := Rk.below b13
    replace hA := hA.below b13
    replace Rh := Rh.below b13
    replace bA := bA.below b13
    replace Rb := Rb.below b13
    replace V1 := V1.below b13
    replace V2 := V2.below b13
    obtain ⟨cA, fA⟩ := live Hq.out
    obtain ⟨cB, fB⟩ := live Hm.out
    go_wp2_with (first | go_skip | (go_at_call 11; with_reducible refine stK ?_))
    refine ⟨(untouched_true ph' ph nh ch' ch high high W13 Rh.1 lH.out hA (take_all lH.out)).mono ?_⟩
    rintro e W14 ⟨rfl, b14⟩
    clear cA fA cB fB
    have s14 := b14.size
    replace bb := bb.trans (b14.mono (by omega))
    replace Hq := Lib.hid ((b14.block w.heap.size (by omega)).trans Hq.out)
    replace Hm := Lib.hid ((b14.block (w.heap.size + 1) (by omega)).trans Hm.out)
    replace kA := kA.below b14
    replace Rk := Rk.below b14
    replace hA := hA.below b14
    replace Rh := Rh.below b14
    replace bA := bA.below b14
    replace Rb := Rb.below b14
    replace V1 := V1.below b14
    replace V2 := V2.below b14
    obtain ⟨cA, fA⟩ := live Hq.out
    obtain ⟨cB, fB⟩ := live Hm.out
    go_wp2_with (first | go_skip | (go_at_call 11; with_reducible refine stK ?_))
    refine ⟨(untouched_true pb' pb nb cb' cb batch batch W14 Rb.1 lB.out bA (take_all lB.out)).mono ?_⟩
    rintro e W15 ⟨rfl, b15⟩
    clear cA fA cB fB
    have s15 := b15.size
    replace bb := bb.trans (b15.mono (by omega))
    replace Hq := Lib.hid ((b15.block w.heap.size (by omega)).trans Hq.out)
    replace Hm := Lib.hid ((b15.block (w.heap.size + 1) (by omega)).trans Hm.out)
    replace kA := kA.below b15
    replace Rk := Rk.below b15
    replace hA := hA.below b15
    replace Rh := Rh.below b15
    replace bA := bA.below b15
    replace Rb := Rb.below b15
    replace V1 := V1.below b15
    replace V2 := V2.below b15
    clear kA hA bA Rk Rh Rb
    obtain ⟨r, hr⟩ := dec_enc _ L hE'
    have HD := Lib.hid hr
    clear hr
    go_wp2_with (go_at_call 12; with_reducible refine stK ?_)
    refine ⟨(dec_all p1 L.length c1 L W15 V1 rfl (by omega) (hs.below hg bb)).mono ?_⟩
    rintro e W16 (⟨hD, _⟩ | ⟨q, qk, mk1, dk, qh, mh1, dh, qb, mb1, db, hD, rfl, b16, vk, vh, vb⟩)
    · rw [HD.out] at hD; cases hD
    obtain rfl : r = q := by rw [HD.out] at hD; exact Option.some.inj hD
    clear hD
    have s16 := b16.size
    replace bb := bb.trans (b16.mono (by omega))
    replace V2 := V2.below b16
    go_wp2_with (with_reducible refine stAl 24 ?_)
    refine ⟨al rfl 24 rfl (z := .agg #[.int .i64 0, .int .i64 0, .int .i64 0, .int .i64 0, .slice none 0 0, .slice none 0 0, .slice none 0 0]) (by kernel_rfl) ?_⟩
    intro W17 z17 h17 b17
    simp only [Value.cells] at h17
    go_wp2_with (with_reducible refine stW 24 ?_)
    refine ⟨stRow rfl 24 (.tmp 8) (.tmp 96) rfl rfl h17 (c' := #[.int .i64 r.op, .int .i64 r.ver, .int .i64 r.oth, .int .i64 r.lim, .slice qk mk1 dk, .slice qh mh1 dh, .slice qb mb1 db]) rfl (by kernel_rfl) rfl (by simp [Value.oneCell']) ?_⟩
    clear h17
    intro W18 z18 h18 g18
    have b18 : Below W16.heap.size W16 W18 := b17.grown g18 (by omega) (by simp)
    have s18 := b18.size
    replace bb := bb.trans (b18.mono (by omega))
    replace V2 := V2.below b18
    replace vk := vk.below b18
    replace vh := vh.below b18
    replace vb := vb.below b18
    have H18 := Lib.hid h18
    clear h18
    go_wp2_with (go_at_call 13; with_reducible refine stK ?_)
    refine ⟨(asked_all p2 L.length c2 L W18 V2 rfl).mono ?_⟩
    rintro e W19 (⟨hD, _⟩ | ⟨q, qk', mk2, dk', qh', mh2, dh', qb', mb2, db', hD, rfl, b19, vk', vh', vb'⟩)
    · rw [HD.out] at hD; cases hD
    obtain rfl : r = q := by rw [HD.out] at hD; exact Option.some.inj hD
    clear hD
    have s19 := b19.size
    replace bb := bb.trans (b19.mono (by omega))
    replace vk := vk.below b19
    replace vh := vh.below b19
    replace vb := vb.below b19
    have H19 := Lib.hid ((b19.block W16.heap.size (by omega)).trans H18.out)
    go_wp2_with (with_reducible refine stAl 24 ?_)
    refine ⟨al rfl 24 rfl (z := .agg #[.int .i64 0, .int .i64 0, .int .i64 0, .int .i64 0, .slice none 0 0, .slice none 0 0, .slice none 0 0]) (by kernel_rfl) ?_⟩
    intro W20 z20 h20 b20
    simp only [Value.cells] at h20
    go_wp2_with (with_reducible refine stW 24 ?_)
    refine ⟨stRow rfl 24 (.tmp 9) (.tmp 101) rfl rfl h20 (c' := #[.int .i64 r.op, .int .i64 r.ver, .int .i64 r.oth, .int .i64 r.lim, .slice qk' mk2 dk', .slice qh' mh2 dh', .slice qb' mb2 db']) rfl (by kernel_rfl) rfl (by simp [Value.oneCell']) ?_⟩
    clear h20
    intro W21 z21 h21 g21
    have b21 : Below W19.heap.size W19 W21 := b20.grown g21 (by omega) (by simp)
    have s21 := b21.size
    replace bb := bb.trans (b21.mono (by omega))
    replace vk := vk.below b21
    replace vh := vh.below b21
    replace vb := vb.below b21
    replace vk' := vk'.below b21
    replace vh' := vh'.below b21
    replace vb' := vb'.below b21
    have H21 := Lib.hid ((b21.block W16.heap.size (by omega)).trans H19.out)
    obtain ⟨cA, fA⟩ := live H21.out
    obtain ⟨cB, fB⟩ := live h21
    clear h21
    go_wp2_with (first | go_skip | (go_at_call 10; with_reducible refine stK ?_))
    refine ⟨(sameReq_true r.op r.ver r.oth r.lim qk qh qb qk' qh' qb' mk1 dk mh1 dh mb1 db mk2 dk' mh2 dh' mb2 db' r.key r.high r.batch r.key r.high r.batch W21 vk.1 vh.1 vb.1 vk'.1 vh'.1 vb'.1
      (by rw [take_all vk.len, take_all vk'.len]) (by rw [take_all vh.len, take_all vh'.len]) (by rw [take_all vb.len, take_all vb'.len])).mono ?_⟩
    rintro e W22 ⟨rfl, b22⟩
    have bf := bb.trans (b22.mono (by omega))
    clear cA fA cB fB
    go_wp2
    go_ret
    exact ⟨rfl, bf⟩
end Go.Proofs.YtmedbedpgbbdgaaDoor
