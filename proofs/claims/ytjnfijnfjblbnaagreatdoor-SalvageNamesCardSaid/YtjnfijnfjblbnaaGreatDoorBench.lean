/- The bench that salvage works on, as it stands in memory; its pages; how it is laid. -/
import Derived.Test.YtjnfijnfjblbnaaGreatDoorTurnNo
import Derived.Test.YtjnfijnfjblbnaaGreatDoorFrame1
namespace Go.Proofs.YtjnfijnfjblbnaaGreatDoor
open Go.RowKit Go.Maps
set_option linter.unusedVariables false

/-- A row of cells, some of them written over. -/
def spl (c : Array Value) (o : Nat) : List Value → Array Value
  | [] => c
  | v :: vs => spl (c.setIfInBounds o v) (o + 1) vs
theorem spl_size (vs : List Value) : ∀ (c : Array Value) (o : Nat), (spl c o vs).size = c.size := by
  induction vs with
  | nil => intro c o; rfl
  | cons v vs ih => intro c o; simp [spl, ih]
theorem spl_out (vs : List Value) : ∀ (c : Array Value) (o j : Nat), j < o ∨ o + vs.length ≤ j → (spl c o vs)[j]? = c[j]? := by
  induction vs with
  | nil => intro c o j _; rfl
  | cons v vs ih =>
    intro c o j h
    simp only [List.length_cons] at h
    rw [spl, ih _ _ _ (by omega), Array.getElem?_setIfInBounds, if_neg (by omega)]
theorem spl_in (vs : List Value) : ∀ (c : Array Value) (o j : Nat), j < vs.length → o + vs.length ≤ c.size → (spl c o vs)[o + j]? = vs[j]? := by
  induction vs with
  | nil => intro c o j h _; simp at h
  | cons v vs ih =>
    intro c o j h hs
    simp only [List.length_cons] at h hs
    cases j with
    | zero =>
      rw [spl, spl_out _ _ _ _ (by omega)]
      have : o < c.size := by omega
      simp [this]
    | succ j =>
      rw [spl, show o + (j + 1) = o + 1 + j by omega, ih _ _ _ (by omega) (by simp; omega)]
      rfl
theorem setCells_block (b : Nat) (T : TypeId) (vs : List Value) : ∀ (o : Nat) (w : World) (c : Array Value), w.heap[b]? = some (.cells c T (0, 0)) → (w.setCells b o vs).heap[b]? = some (.cells (spl c o vs) T (0, 0)) ∧ w.grownBy (w.setCells b o vs) (some b) := by
  induction vs with
  | nil => intro o w c h; exact ⟨h, grownBy_refl _ _⟩
  | cons v vs ih =>
    intro o w c h
    obtain ⟨h1, h2⟩ := ih (o + 1) (w.setCell ⟨b, o, none⟩ v) _ (block_set h v)
    exact ⟨h1, grownBy_trans (grownBy_set w b o v) h2⟩

/-- A struct or an array is stored into the middle of a block. -/
theorem stMid {P : Program} {w : World} {ops : Array Oper} {rest : List Oper} {o : Oper} {a : Act} {Q : Exit → Act → World → Prop} (hg : o.guard = none) (T : TypeId) (x y : Operand) (ho : o.op = .store T x y) {c c' : Array Value} {b off : Nat} {tb : TypeId} (hx : a.eval x = .pointer (some ⟨b, off, none⟩)) (hb : w.heap[b]? = some (.cells c tb (0, 0))) (hy : a.eval y = .agg c')
    (hi : (P.info? T).map (·.size) = some c'.size) (hs : off + c'.size ≤ c.size) (h1 : c'.all (·.oneCell') = true)
    (h : ∀ W, W.heap.size = w.heap.size → W.heap[b]? = some (.cells (spl c off c'.toList) tb (0, 0)) → w.grownBy W (some b) → wpList P ops Q rest (a.put o.dst undef) W) : wpList P ops Q (o :: rest) a w := by
  obtain ⟨q1, q2⟩ := setCells_block b tb c'.toList off w c hb
  refine wpList_store_mid hg T x y ho b off c' hx hy (fun j hj => ?_) hi h1 (h _ ?_ q1 q2)
  · rw [cell_of_row _ _ _ _ _ _ hb]
    exact ⟨by simp; omega, frozen_of_row _ _ _ _ _ hb⟩
  · have : ∀ (vs : List Value) (o : Nat) (w : World), (w.setCells b o vs).heap.size = w.heap.size := by
      intro vs
      induction vs with
      | nil => intro o w; rfl
      | cons v vs ih => intro o w; exact (ih _ _).trans (World.size_setCell _ _ _)
    exact this _ _ _

def BenchIs (w : World) (bb : Nat) (cs : Array Value) (q : Option Addr) (n c : Nat) (l : List UInt8) : Prop :=
  w.heap[bb]? = some (.cells cs 57 (0, 0)) ∧ cs.size = 14 ∧ cs[0]? = some (.slice q n c) ∧ View w (.slice q n c) n 1 (bv l) ∧ l.length = n ∧ (∀ k, (Value.slice q n c).ownBlock = some k → k ≠ bb) ∧ TabIs w bb 6 252 cs ∧ TabIs w bb 10 60 cs

theorem BenchIs.lt {w : World} {bb n c : Nat} {cs : Array Value} {q : Option Addr} {l : List UInt8} (h : BenchIs w bb cs q n c l) : bb < w.heap.size := (Array.getElem?_eq_some_iff.1 h.1).1
theorem BenchIs.below {w W : World} {bb n c : Nat} {cs : Array Value} {q : Option Addr} {l : List UInt8} (h : BenchIs w bb cs q n c l) (b : Below w.heap.size w W) : BenchIs W bb cs q n c l := by
  have hl := h.lt
  obtain ⟨h1, h2, h3, h4, h5, h6, h7, h8⟩ := h
  exact ⟨(b.block bb hl).trans h1, h2, h3, h4.below b, h5, h6, h7.below b, h8.below b⟩
theorem BenchIs.drew {w : World} {bb n c : Nat} {cs : Array Value} {q : Option Addr} {l : List UInt8} (h : BenchIs w bb cs q n c l) : BenchIs w.drew bb cs q n c l := h.below (Below.refl _ _).drew
/-- A row of cells that is newer is written. -/
theorem BenchIs.other {w W : World} {bb n c k : Nat} {cs : Array Value} {q : Option Addr} {l : List UInt8} (h : BenchIs w bb cs q n c l) (g : w.grownBy W (some k)) (hb : bb < k) (hi : ∀ j, (Value.slice q n c).ownBlock = some j → j < k) (hrow : ∃ c t, w.heap[k]? = some (.cells c t (0, 0))) : BenchIs W bb cs q n c l := by
  have hl := h.lt
  obtain ⟨h1, h2, h3, h4, h5, h6, h7, h8⟩ := h
  obtain ⟨c', t', hr⟩ := hrow
  have hm : ∀ j, j < w.heap.size → (∃ es c, w.heap[j]? = some (.map es c)) → W.heap[j]? = w.heap[j]? := fun j hj ⟨es, cl, hmm⟩ => g.block j hj (by
    intro e
    cases e
    rw [hr] at hmm
    cases hmm)
  exact ⟨keep g h1 (by omega), h2, h3, h4.grown g (fun j hj e => by have := hi j hj; simp at e; omega), h5, h6, h7.kept hm, h8.kept hm⟩
/-- The slots' table may have been filled. -/
theorem BenchIs.slots {w W : World} {bb n c : Nat} {cs : Array Value} {q : Option Addr} {l : List UInt8} (h : BenchIs w bb cs q n c l) (t : TabNew w W bb 10 60 cs 57) : ∃ cs', BenchIs W bb cs' q n c l ∧ w.grownBy W (some bb) := by
  obtain ⟨h1, h2, h3, h4, h5, h6, h7, h8⟩ := h
  obtain ⟨cs', g, r1, r2, r3, r4⟩ := t
  have hm : ∀ j, j < w.heap.size → (∃ es c, w.heap[j]? = some (.map es c)) → W.heap[j]? = w.heap[j]? := fun j hj ⟨es, cl, hmm⟩ => g.block j hj (by
    intro e
    cases e
    rw [h1] at hmm
    cases hmm)
  refine ⟨cs', ⟨r1, by omega, (r4 0 (by omega)).trans h3, h4.grown g (fun j hj e => by have := h6 j hj; simp at e; omega), h5, h6, ?_, r2⟩, g⟩
  have h7' := h7.kept hm
  refine ⟨by omega, ?_⟩
  rw [r4 6 (by omega), r4 7 (by omega), r4 9 (by omega)]
  exact h7'.2

theorem i64e {a b : Int} (h : a = b) : Value.int .i64 a = .int .i64 b := by rw [h]

/-- The superblock on the bench is another. -/
theorem BenchIs.super {w W : World} {bb n c : Nat} {cs : Array Value} {q : Option Addr} {l : List UInt8} (h : BenchIs w bb cs q n c l) (vs : List Value) (hv : vs.length = 5) (h1 : W.heap[bb]? = some (.cells (spl cs 1 vs) 57 (0, 0))) (g : w.grownBy W (some bb)) : BenchIs W bb (spl cs 1 vs) q n c l := by
  obtain ⟨k1, k2, k3, k4, k5, k6, k7, k8⟩ := h
  have hm : ∀ j, j < w.heap.size → (∃ es c, w.heap[j]? = some (.map es c)) → W.heap[j]? = w.heap[j]? := fun j hj ⟨es, cl, hmm⟩ => g.block j hj (by
    intro e
    cases e
    rw [k1] at hmm
    cases hmm)
  refine ⟨h1, by rw [spl_size]; exact k2, by rw [spl_out _ _ _ _ (by omega)]; exact k3, k4.grown g (fun j hj e => by have := k6 j hj; simp at e; omega), k5, k6, ?_, ?_⟩
  · have k7' := k7.kept hm
    refine ⟨by rw [spl_size]; omega, ?_⟩
    rw [spl_out _ _ _ 6 (by omega), spl_out _ _ _ (6 + 1) (by omega), spl_out _ _ _ (6 + 3) (by omega)]
    exact k7'.2
  · have k8' := k8.kept hm
    refine ⟨by rw [spl_size]; omega, ?_⟩
    rw [spl_out _ _ _ 10 (by omega), spl_out _ _ _ (10 + 1) (by omega), spl_out _ _ _ (10 + 3) (by omega)]
    exact k8'.2

set_option maxRecDepth 100000 in
set_option maxHeartbeats 1000000 in
theorem page_spec (bb : Nat) (cs : Array Value) (q : Option Addr) (n c p : Nat) (l : List UInt8) (w : World) (hB : BenchIs w bb cs q n c l) (hp : 256 * (p + 1) ≤ n) :
    Calls Tryz.prog 15 #[.pointer (some ⟨bb, 0, none⟩), .int .i64 p] w fun e w' => ∃ q' c', e = .returned (.slice q' 256 c') ∧ View w (.slice q' 256 c') 256 1 (bv ((l.drop (256 * p)).take 256)) ∧ (∀ k, (Value.slice q' 256 c').ownBlock = some k → (Value.slice q n c).ownBlock = some k) ∧ w' = w := by
  obtain ⟨h1, h2, h3, h4, h5, h6, h7, h8⟩ := hB
  have hcap := h4.cap
  have cb : w.cell? ⟨bb, 0, none⟩ = some (.slice q n c) := by rw [cell_of_row _ _ _ _ _ _ h1]; exact h3
  have H5 := Lib.hid h5
  have hln : n ≤ l.length := by omega
  clear h1 h2 h3 h5 h6 h7 h8
  go_enter Tryz.func15, Tryz.ntmps15
  go_wp2_with (with_reducible refine stS ?_)
  refine ⟨slcLH skB rfl (.tmp 8) (.tmp 10) (.tmp 13) rfl (y := q) (n := n) (c := c) rfl h4 (k := .i64) (k' := .i64) (256 * p) (256 * (p + 1)) ((show _ = Value.int .i64 ((p : Int) * 256) from rfl).trans (i64e (by omega))) ((show _ = Value.int .i64 (((p : Int) + 1) * 256) from rfl).trans (i64e (by omega))) (by omega) (by simp [bv_length]; omega) ?_⟩
  intro p' hv hk
  rw [show 256 * (p + 1) - 256 * p = 256 by omega] at hv hk
  rw [Nat.mul_one, bv_drop] at hv
  rw [show 256 * (p + 1) - 256 * p = 256 by omega]
  have hv' := hv.trim
  rw [Nat.mul_one, bv_take] at hv'
  clear hv
  go_wp2
  go_ret
  exact ⟨p', c - 256 * p, rfl, hv', hk, rfl⟩

/-- The cells of a bench as it is laid. -/
def freshCs (q : Option Addr) (n c : Nat) : Array Value := #[.slice q n c, .int .i64 0, .int .i64 0, .int .i64 0, .int .i64 0, .int .i64 0, .int .u32 0, .int .i32 0, .int .u32 0, .map none, .int .u32 0, .int .i32 0, .int .u32 0, .map none]

set_option maxRecDepth 100000 in
set_option maxHeartbeats 1000000 in
theorem lay_ok (q : Option Addr) (n c P : Nat) (l : List UInt8) (w : World) (hv : View w (.slice q n c) n 1 (bv l)) (hl : l.length = n) (hn : n = 256 * P) (h3 : 3 ≤ P) (h4 : P ≤ 4096) :
    Calls Tryz.prog 8 #[.slice q n c] w fun e w' => ∃ bb q' c' cs, e = .returned (.tuple #[.pointer (some ⟨bb, 0, none⟩), .int .i64 0]) ∧ BenchIs w' bb cs q' n c' l ∧ w.heap.size ≤ bb ∧ (∀ k, (Value.slice q' n c').ownBlock = some k → w.heap.size ≤ k ∧ k < bb) ∧ Below w.heap.size w w' := by
  have hm : ((n : Int) % 256) = 0 := by omega
  have hd : ((n : Int) / 256) = (P : Int) := by omega
  have HM := Lib.hid hn
  have HLL := Lib.hid hl
  have hn1 : n ≤ 1048576 := by omega
  clear hn hl
  go_enter Tryz.func8, Tryz.ntmps8
  go_wp2_with (first | go_skip | (with_reducible refine stA ?_))
  have lt : l.take n = l := List.take_of_length_le (by rw [HLL.out]; exact Nat.le_refl _)
  refine ⟨appB skB rfl (.const (.slice none 0 0)) (.tmp 18) rfl w.heap.size (v := .slice none 0 0) (xs := []) rfl rfl (World.ownsRow_nil w _ _ _) hv (Nat.le_refl _) n (by simp) (by omega) l (by simp [lt]) ?_⟩
  intro p1 c1 w1 ho1 hg1
  have V1 := VA.own ho1
  have b1 : Below w.heap.size w w1 := (Below.refl _ _).grown hg1.by_ (Nat.le_refl _) (fun k hk => by simp [Value.ownBlock] at hk)
  have y1 := b1.size
  clear ho1 hg1 lt
  go_wp2_with (first | go_skip | (with_reducible refine stB 57 ?_))
  refine ⟨bx rfl 57 (.tmp 20) rfl (v := .agg (freshCs p1 n c1)) rfl ?_⟩
  intro W2 z2 h2 b2
  simp only [Value.cells] at h2
  have B2 : BenchIs W2 w1.heap.size (freshCs p1 n c1) p1 n c1 l :=
    ⟨h2, rfl, rfl, V1.1.below b2, HLL.out, fun k hk => by have := V1.1.lt k hk; omega, ⟨by show 6 + 3 < 14; decide, .inl ⟨rfl, rfl⟩⟩, ⟨by show 10 + 3 < 14; decide, .inl ⟨rfl, rfl⟩⟩⟩
  clear h2
  go_wp2
  go_ret2
  exact ⟨w1.heap.size, p1, c1, freshCs p1 n c1, rfl, B2, y1, fun k hk => ⟨V1.2.2 k hk, V1.1.lt k hk⟩, b1.trans (b2.mono y1)⟩
end Go.Proofs.YtjnfijnfjblbnaaGreatDoor
