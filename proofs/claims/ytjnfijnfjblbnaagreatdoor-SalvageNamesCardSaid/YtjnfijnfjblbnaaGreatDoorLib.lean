/- Laws of our own for walks: what a slice value shows of memory ('View'), append, len, slicing, indexing, bytes as a string, over any program. No conditions beyond each law's own. -/
import Derived.Test.YtjnfijnfjblbnaaGreatDoorProg
import Derived.WalkKit
import Derived.WalkSpells
import Derived.WalkLawsBesides
import Derived.BigQuiet
import Derived.Deep.QuietTactic
import Derived.Deep.MidRow
import Derived.Laws.AppendOwnNone
import Derived.Deep.WholeRow
namespace Go.Proofs.YtjnfijnfjblbnaaGreatDoor
open Go.RowKit
set_option linter.unusedVariables false

/-- The cells from 'off' on in block 'b' are 'xs'. -/
def Cells (w : World) (b off : Nat) (xs : List Value) : Prop := ∀ j v, xs[j]? = some v → w.cell? ⟨b, off + j, none⟩ = some v

/-- Bytes as cells. -/
def bv (l : List UInt8) : List Value := l.map fun b => .int .u8 b.toNat
theorem bv_length (l : List UInt8) : (bv l).length = l.length := by simp [bv]
theorem bv_append (l m : List UInt8) : bv (l ++ m) = bv l ++ bv m := by simp [bv]
theorem bv_take (l : List UInt8) (n : Nat) : (bv l).take n = bv (l.take n) := by simp [bv]
theorem bv_drop (l : List UInt8) (n : Nat) : (bv l).drop n = bv (l.drop n) := by simp [bv]
@[simp] theorem bv_nil : bv [] = [] := rfl
theorem own_slice (p : Option Addr) (n c n' c' : Nat) : (Value.slice p n c).ownBlock = (Value.slice p n' c').ownBlock := by cases p <;> rfl
theorem bv_one (l : List UInt8) : ∀ u ∈ bv l, u.oneCell' = true := by
  intro u hu
  simp only [bv, List.mem_map] at hu
  obtain ⟨b, _, rfl⟩ := hu
  rfl

/-- The slice value 'v' has 'n' elements of 'size' cells; 'xs' are its cells, those of spare places that are known too. -/
def View (w : World) (v : Value) (n size : Nat) (xs : List Value) : Prop :=
  n * size ≤ xs.length ∧ ((v = .slice none 0 0 ∧ n = 0 ∧ xs = []) ∨
    ∃ b off cap, v = .slice (some ⟨b, off, none⟩) n cap ∧ xs.length ≤ cap * size ∧ n ≤ cap ∧ cap ≤ maxLen ∧ b < w.heap.size ∧ Cells w b off xs)

/-- What the table says of a slice type and its element. -/
structure SK (P : Program) (t e : TypeId) (size bytes : Nat) (z : Value) : Prop where
  ht : P.underlying t = some (.slice e)
  hi : ∃ i, P.info? e = some i ∧ i.zero = some z ∧ i.size = size ∧ i.bytes = bytes
  hzs : z.cells.size = size
  hsz : 0 < size

theorem SK.mk' {P : Program} {t e : TypeId} {size bytes : Nat} {z : Value} (ht : P.underlying t = some (.slice e))
    (hi : (P.info? e).map (fun i => (i.zero, i.size, i.bytes)) = some (some z, size, bytes)) (hzs : z.cells.size = size) (hsz : 0 < size) : SK P t e size bytes z := by
  obtain ⟨i, h1, h2, h3, h4⟩ := info_parts hi
  exact ⟨ht, ⟨i, h1, h2, h3, h4⟩, hzs, hsz⟩

theorem Cells.of_block {w w' : World} {b off : Nat} {xs : List Value} (h : Cells w b off xs) (hb : w'.heap[b]? = w.heap[b]?) : Cells w' b off xs :=
  fun j v hj => (World.cell?_of_block (a := ⟨b, off + j, none⟩) hb).trans (h j v hj)

theorem Cells.drop {w : World} {b off : Nat} {xs : List Value} (h : Cells w b off xs) (k : Nat) : Cells w b (off + k) (xs.drop k) := by
  intro j v hj
  rw [List.getElem?_drop] at hj
  have := h (k + j) v hj
  rwa [← Nat.add_assoc] at this

theorem View.nil (w : World) (size : Nat) : View w (.slice none 0 0) 0 size [] := ⟨by simp, .inl ⟨rfl, rfl, rfl⟩⟩

/-- The block that a slice value lies in is below the heap's end. -/
theorem View.lt {w : World} {v : Value} {n size : Nat} {xs : List Value} (h : View w v n size xs) : ∀ k, v.ownBlock = some k → k < w.heap.size := by
  intro k hk
  rcases h.2 with ⟨rfl, _⟩ | ⟨b, off, cap, rfl, _, _, _, hb, _⟩
  · simp [Value.ownBlock] at hk
  · simp [Value.ownBlock] at hk; omega

theorem View.of_block {w w' : World} {v : Value} {n size : Nat} {xs : List Value} (h : View w v n size xs) (hs : w.heap.size ≤ w'.heap.size)
    (hb : ∀ k, v.ownBlock = some k → w'.heap[k]? = w.heap[k]?) : View w' v n size xs := by
  refine ⟨h.1, ?_⟩
  rcases h.2 with h1 | ⟨b, off, cap, rfl, h1, h2, h3, h4, h5⟩
  · exact .inl h1
  · exact .inr ⟨b, off, cap, rfl, h1, h2, h3, by omega, h5.of_block (hb b (by simp [Value.ownBlock]))⟩

theorem View.alloc {w : World} {v : Value} {n size : Nat} {xs : List Value} (h : View w v n size xs) (o : Obj) : View (w.alloc o) v n size xs :=
  h.of_block (by simp) (fun k hk => Below.heap_alloc w o k (h.lt k hk))

theorem View.below {w w' : World} {v : Value} {n size : Nat} {xs : List Value} (h : View w v n size xs) (hb : Below w.heap.size w w') : View w' v n size xs :=
  h.of_block hb.size (fun k hk => hb.block k (h.lt k hk))

theorem View.grown {w w' : World} {v : Value} {n size : Nat} {xs : List Value} {row : Option Nat} (h : View w v n size xs) (hg : w.grownBy w' row) (hne : ∀ k, v.ownBlock = some k → some k ≠ row) : View w' v n size xs :=
  h.of_block hg.size (fun k hk => hg.block k (h.lt k hk) (hne k hk))

theorem View.drew {w : World} {v : Value} {n size : Nat} {xs : List Value} (h : View w v n size xs) : View w.drew v n size xs := h.of_block (Nat.le_refl _) (fun _ _ => rfl)

/-- An owned row shows its cells. -/
theorem View.own {w : World} {base : Nat} {e : TypeId} {size : Nat} {v : Value} {n : Nat} {xs : List Value} (h : w.ownsRow base e size v n xs) : View w v n size xs := by
  refine ⟨by rw [h.1]; exact Nat.le_refl _, ?_⟩
  rcases h.2 with ⟨rfl, rfl⟩ | ⟨g, cap, cur, rfl, hb, hg, hnc, hcm, hcs, htake⟩
  · exact .inl ⟨rfl, rfl, List.eq_nil_of_length_eq_zero (by simpa using h.1)⟩
  · refine .inr ⟨g, 0, cap, rfl, by rw [h.1]; exact Nat.mul_le_mul_right _ hnc, hnc, hcm, (Array.getElem?_eq_some_iff.1 hg).1, fun j u hu => ?_⟩
    have := h.cells (g := g) rfl j u hu
    have hadd : (⟨g, 0, none⟩ : Addr).add j = ⟨g, 0 + j, none⟩ := by unfold Addr.add; split <;> simp_all
    rwa [hadd] at this

theorem View.lit {w : World} {cs : Array Value} {e : TypeId} {n size : Nat} (hs : cs.size = n * size) (hm : n ≤ maxLen) : View (w.alloc (.cells cs e)) (.slice (some ⟨w.heap.size, 0, none⟩) n n) n size cs.toList := by
  refine ⟨by simp [hs], .inr ⟨w.heap.size, 0, n, rfl, by simp [hs], Nat.le_refl _, hm, by simp, fun j u hj => ?_⟩⟩
  rw [cell_of_row _ _ _ cs e (0, 0) (heap_alloc_new w _)]
  simpa using hj

theorem own_bytes {w : World} {base : Nat} {e : TypeId} {v : Value} {n : Nat} {l : List UInt8} (h : w.ownsRow base e 1 v n (bv l)) : l.length = n := by simpa [bv] using h.1

theorem byteV {y : Int} (h0 : 0 ≤ y) (h1 : y < 256) : Value.int .u8 y = .int .u8 (UInt8.ofNat y.toNat).toNat := by
  simp
  omega

theorem View.byte1 {w : World} {e : TypeId} {y : Int} (h0 : 0 ≤ y) (h1 : y < 256) : View (w.alloc (.cells #[.int .u8 y] e)) (.slice (some ⟨w.heap.size, 0, none⟩) 1 1) 1 1 (bv [UInt8.ofNat y.toNat]) := by
  rw [byteV h0 h1]
  exact View.lit (size := 1) rfl (by decide)

theorem View.take {w : World} {v : Value} {n size : Nat} {xs : List Value} (h : View w v n size xs) : (xs.take (n * size)).length = n * size := by
  rw [List.length_take]; have := h.1; omega

theorem View.trim {w : World} {v : Value} {n size : Nat} {xs : List Value} (h : View w v n size xs) : View w v n size (xs.take (n * size)) := by
  refine ⟨by rw [h.take]; exact Nat.le_refl _, ?_⟩
  rcases h.2 with ⟨rfl, rfl, rfl⟩ | ⟨b, off, cap, rfl, h2, h3, h4, h5, h6⟩
  · exact .inl ⟨rfl, rfl, by simp⟩
  · refine .inr ⟨b, off, cap, rfl, by rw [h.take]; exact Nat.mul_le_mul_right _ h3, h3, h4, h5, fun j v hj => ?_⟩
    rw [List.getElem?_take] at hj
    split at hj
    · exact h6 j v hj
    · cases hj

theorem cell_of_block {w : World} {b j : Nat} {cs : Array Value} {t : TypeId} {fr : Nat × Nat} (hg : w.heap[b]? = some (.cells cs t fr)) {v : Value} (hv : cs[j]? = some v) : w.cell? ⟨b, j, none⟩ = some v := by
  rw [cell_of_row w b j cs t fr hg, hv]

theorem frozen_of_block {w : World} {b j : Nat} {cs : Array Value} {t : TypeId} (hg : w.heap[b]? = some (.cells cs t (0, 0))) : w.frozen? ⟨b, j, none⟩ = false := frozen_of_row w b j cs t hg

theorem block_set {w : World} {b j : Nat} {cs : Array Value} {t : TypeId} {fr : Nat × Nat} (hg : w.heap[b]? = some (.cells cs t fr)) (v : Value) : (w.setCell ⟨b, j, none⟩ v).heap[b]? = some (.cells (cs.setIfInBounds j v) t fr) := by
  simp [World.setCell, Array.getElem?_modify, hg]

theorem grownBy_set (w : World) (b j : Nat) (v : Value) : w.grownBy (w.setCell ⟨b, j, none⟩ v) (some b) :=
  ⟨rfl, rfl, rfl, by simp, fun k _ hk => Below.heap_setCell _ _ _ _ (by simpa using hk)⟩

theorem grownBy_trans {a b c : World} {row : Option Nat} (h : a.grownBy b row) (k : b.grownBy c row) : a.grownBy c row :=
  ⟨k.os.trans h.os, k.tape.trans h.tape, k.output.trans h.output, Nat.le_trans h.size k.size, fun i hi hne => (k.block i (by have := h.size; omega) hne).trans (h.block i hi hne)⟩

theorem grownBy_refl (a : World) (row : Option Nat) : a.grownBy a row := ⟨rfl, rfl, rfl, Nat.le_refl _, fun _ _ _ => rfl⟩

/-- What a block holds, as rules for the walk. -/
theorem live {w : World} {b : Nat} {cs : Array Value} {t : TypeId} (hb : w.heap[b]? = some (.cells cs t (0, 0))) : (∀ j, w.cell? ⟨b, j, none⟩ = cs[j]?) ∧ (∀ j, w.frozen? ⟨b, j, none⟩ = false) :=
  ⟨fun j => cell_of_row w b j cs t _ hb, fun j => frozen_of_row w b j cs t hb⟩

theorem View.set {w : World} {v : Value} {n size : Nat} {xs : List Value} (h : View w v n size xs) {b : Nat} (hne : ∀ k, v.ownBlock = some k → k ≠ b) (j : Nat) (u : Value) : View (w.setCell ⟨b, j, none⟩ u) v n size xs :=
  h.grown (grownBy_set w b j u) (fun k hk => by have := hne k hk; simpa using this)

theorem View.cut0 {w : World} {y : Option Addr} {n c size : Nat} {xs : List Value} (hy : View w (.slice y n c) n size xs) (h m : Nat) (h2 : h ≤ m) (h3 : m ≤ c) (hx : h * size ≤ xs.length) :
    View w (.slice y h m) h size (xs.take (m * size)) := by
  have hge : h * size ≤ (xs.take (m * size)).length := by rw [List.length_take]; have := Nat.mul_le_mul_right size h2; omega
  rcases hy.2 with ⟨he, h4, h5⟩ | ⟨b, off, cap, he, h4, h5, h6, h7, h8⟩
  · simp only [Value.slice.injEq] at he
    obtain ⟨rfl, rfl, rfl⟩ := he
    subst h5
    have : m = 0 := by omega
    subst this
    have : h = 0 := by omega
    subst this
    exact ⟨by simp, .inl (by simp)⟩
  · simp only [Value.slice.injEq] at he
    obtain ⟨rfl, -, rfl⟩ := he
    refine ⟨hge, .inr ⟨b, off, m, rfl, by rw [List.length_take]; omega, h2, by omega, h7, fun j u hj => ?_⟩⟩
    rw [List.getElem?_take] at hj
    split at hj
    · exact h8 j u hj
    · cases hj

theorem add_off (b off j : Nat) : (⟨b, off, none⟩ : Addr).add j = ⟨b, off + j, none⟩ := by unfold Addr.add; split <;> simp_all

theorem le_al {B : Nat} {w : World} (h : B ≤ w.heap.size) (o : Obj) : B ≤ (w.alloc o).heap.size := by simp; omega

theorem own_form {w : World} {base : Nat} {e : TypeId} {size : Nat} {v : Value} {n : Nat} {xs : List Value} (h : w.ownsRow base e size v n xs) : ∃ p c, v = .slice p n c := by
  rcases h.2 with ⟨rfl, rfl⟩ | ⟨g, cap, cur, rfl, _⟩ <;> exact ⟨_, _, rfl⟩

/-- Bytes that a slice value shows, in blocks from 'lo' on. -/
def VA (w : World) (v : Value) (n : Nat) (l : List UInt8) (lo : Nat) : Prop := View w v n 1 (bv l) ∧ l.length = n ∧ ∀ k, v.ownBlock = some k → lo ≤ k

theorem VA.grown {w w' : World} {v : Value} {n lo b : Nat} {l : List UInt8} (h : VA w v n l lo) (hg : w.grownBy w' (some b)) (hb : b < lo) : VA w' v n l lo :=
  ⟨h.1.grown hg (fun k hk e => by have := h.2.2 k hk; simp at e; omega), h.2⟩

theorem VA.below {w w' : World} {v : Value} {n lo : Nat} {l : List UInt8} (h : VA w v n l lo) (hb : Below w.heap.size w w') : VA w' v n l lo := ⟨h.1.below hb, h.2⟩

theorem VA.own {w : World} {B : Nat} {e : TypeId} {v : Value} {n : Nat} {l : List UInt8} (h : w.ownsRow B e 1 v n (bv l)) : VA w v n l B :=
  ⟨View.own h, by simpa [bv] using h.1, fun k hk => (h.lt k hk).1⟩

theorem VA.low {w : World} {v : Value} {n lo lo' : Nat} {l : List UInt8} (h : VA w v n l lo) (hl : lo' ≤ lo) : VA w v n l lo' := ⟨h.1, h.2.1, fun k hk => Nat.le_trans hl (h.2.2 k hk)⟩

theorem VA.nil (w : World) (lo : Nat) : VA w (.slice none 0 0) 0 [] lo := ⟨View.nil w 1, rfl, by simp [Value.ownBlock]⟩

/-- A block below which all stands, but for one, stands. -/
theorem keep {w w' : World} {b k : Nat} {o : Obj} (hg : w.grownBy w' (some b)) (h : w.heap[k]? = some o) (hne : k ≠ b) : w'.heap[k]? = some o :=
  (hg.block k (Array.getElem?_eq_some_iff.1 h).1 (by simpa using hne)).trans h

/-- What an append leaves: v's own row may be written, everything else stands; the result lies in v's row or in a new one. -/
structure Grew (w w' : World) (v v' : Value) : Prop where
  by_ : w.grownBy w' v.ownBlock
  at_ : ∀ k, v'.ownBlock = some k → v.ownBlock = some k ∨ w.heap.size ≤ k

theorem Grew.refl (w : World) (v : Value) : Grew w w v v := ⟨⟨rfl, rfl, rfl, Nat.le_refl _, fun _ _ _ => rfl⟩, fun _ h => .inl h⟩

theorem Grew.trans {w w1 w2 : World} {v v1 v2 : Value} (h : Grew w w1 v v1) (k : Grew w1 w2 v1 v2) : Grew w w2 v v2 := by
  have hs := h.by_.size
  refine ⟨⟨k.by_.os.trans h.by_.os, k.by_.tape.trans h.by_.tape, k.by_.output.trans h.by_.output, Nat.le_trans h.by_.size k.by_.size, fun i hi hne => ?_⟩, fun i hi => ?_⟩
  · refine (k.by_.block i (by omega) (fun e => ?_)).trans (h.by_.block i hi hne)
    rcases h.at_ i e.symm with q | q
    · exact hne q.symm
    · omega
  · rcases k.at_ i hi with q | q
    · exact h.at_ i q
    · exact .inr (by omega)

/-- A new block ahead of it. -/
theorem Grew.alloc {w w' : World} {v v' : Value} {o : Obj} (h : Grew (w.alloc o) w' v v') : Grew w w' v v' := by
  have hs := h.by_.size
  simp at hs
  refine ⟨⟨h.by_.os, h.by_.tape, h.by_.output, by omega, fun i hi hne => (h.by_.block i (by simp; omega) hne).trans (Below.heap_alloc w o i hi)⟩, fun i hi => ?_⟩
  rcases h.at_ i hi with q | q
  · exact .inl q
  · simp at q
    exact .inr (by omega)

theorem Grew.below {w w' : World} {v v' : Value} (h : Grew w w' v v') {B : Nat} (hB : B ≤ w.heap.size) (hv : ∀ k, v.ownBlock = some k → B ≤ k) : Below B w w' :=
  (Below.refl B w).grown h.by_ hB hv

theorem below_own {w0 w w' : World} {B : Nat} {e : TypeId} {size n : Nat} {v v' : Value} {xs : List Value} (hb : Below B w0 w) (hg : Grew w w' v v') (ho : w.ownsRow B e size v n xs) (hB : B ≤ w.heap.size) : Below B w0 w' :=
  hb.trans (hg.below hB (fun k hk => (ho.lt k hk).1))

theorem own_cap {w : World} {B : Nat} {e : TypeId} {size n k c : Nat} {p : Option Addr} {xs : List Value} (ho : w.ownsRow B e size (.slice p k c) n xs) : n = k ∧ n ≤ c := by
  rcases ho.2 with ⟨h1, h2⟩ | ⟨g, cap, cur, h1, h2, h3, h4, _⟩
  · simp at h1; omega
  · simp at h1; omega

/-- What stands below an owned row's base stands. -/
theorem Grew.old {w w' : World} {v v' : Value} (hg : Grew w w' v v') {B : Nat} {e : TypeId} {size n : Nat} {xs : List Value} (ho : w.ownsRow B e size v n xs) {k : Nat} (hk : k < B) {o : Obj} (h : w.heap[k]? = some o) : w'.heap[k]? = some o :=
  (hg.by_.block k (Array.getElem?_eq_some_iff.1 h).1 (fun q => by have := (ho.lt k q.symm).1; omega)).trans h

theorem own_low {w : World} {B B' : Nat} {e : TypeId} {size n : Nat} {v : Value} {xs : List Value} (h : w.ownsRow B e size v n xs) (hB : B' ≤ B) : w.ownsRow B' e size v n xs := by
  refine ⟨h.1, ?_⟩
  rcases h.2 with q | ⟨g, cap, cur, q1, q2, q3⟩
  · exact .inl q
  · exact .inr ⟨g, cap, cur, q1, Nat.le_trans hB q2, q3⟩

theorem own_lit1 (w : World) (e : TypeId) (base : Nat) (b : UInt8) (g : Nat) (hg : g = w.heap.size) (hb : base ≤ g) : (w.alloc (.cells #[.int .u8 b.toNat] e)).ownsRow base e 1 (.slice (some ⟨g, 0, none⟩) 1 1) 1 (bv [b]) := by
  subst hg
  exact ⟨rfl, .inr ⟨w.heap.size, 1, _, rfl, hb, heap_alloc_new w _, Nat.le_refl _, by decide, rfl, rfl⟩⟩

/-- An owned row stands over what only makes memory. -/
theorem own_below {w w' : World} {B : Nat} {e : TypeId} {size n : Nat} {v : Value} {xs : List Value} (h : w.ownsRow B e size v n xs) (hb : Below w.heap.size w w') : w'.ownsRow B e size v n xs :=
  h.kept (row := none) ⟨hb.os, hb.tape, hb.output, hb.size, fun k hk _ => hb.block k hk⟩ (by cases v.ownBlock <;> simp)

theorem run_app {P : Program} (w : World) {t ty e : TypeId} {size bytes : Nat} {z : Value} (hk : SK P t e size bytes z) (base : Nat)
    (v : Value) (n : Nat) (xs : List Value) (hown : w.ownsRow base e size v n xs)
    (a : Addr) (m c : Nat) (news : List Value) (hl : news.length = m * size) (hnews : ∀ j u, news[j]? = some u → w.cell? (a.add j) = some u) (h1 : ∀ u ∈ news, u.oneCell' = true)
    (h63 : n + m ≤ maxLen) (hbytes : (n + m) * bytes ≤ 140737488355328) (hbase : base ≤ w.heap.size) :
    ∃ v' w', (Builtin.append_ #[t, t] ty #[v, .slice (some a) m c]).run P w = .ok v' w' ∧ w'.ownsRow base e size v' (n + m) (xs ++ news) ∧ Grew w w' v v' := by
  obtain ⟨i, hi, hz, rfl, rfl⟩ := hk.hi
  obtain ⟨v', w', hr, ho, hg, hnil⟩ := run_append_own (P := P) w base t ty e i z i.size i.bytes hk.ht hi hz rfl rfl hk.hzs hk.hsz v n xs hown a m c news hl hnews h1 h63 hbytes hbase
  refine ⟨v', w', hr, ho, hg, fun k hkk => ?_⟩
  have hsmall : n + m ≤ 9223372036854775807 := by simp only [maxLen] at h63; omega
  rcases hown.2 with ⟨rfl, rfl⟩ | ⟨g, cap, cur, rfl, hbg, hgg, hnc, hcm, hcs, htake⟩
  · by_cases hm : m = 0
    · have := hnil.2 ⟨rfl, hm⟩
      subst this
      simp [Value.ownBlock] at hkk
    · have hr' := run_append_nil (P := P) w t ty e i z hk.ht hi hz a m c news hl hnews (by omega) (by omega) (by have hb := hbytes; simp only [Nat.zero_add] at hb; omega)
      rw [hr'] at hr
      obtain ⟨rfl, rfl⟩ := (by simpa using hr : _ ∧ _)
      simp [Value.ownBlock] at hkk
      exact .inr (by omega)
  · by_cases hroom : n + m ≤ cap
    · have hfit : n * i.size + news.length ≤ cur.size := by rw [hl, hcs, ← Nat.add_mul]; exact Nat.mul_le_mul_right _ hroom
      have hr' := run_append_room (P := P) w t ty e i hk.ht hi g n cap cur hgg a m c news hl hnews h1 hroom hfit
      rw [hr'] at hr
      obtain ⟨rfl, rfl⟩ := (by simpa using hr : _ ∧ _)
      exact .inl (by simpa [Value.ownBlock] using hkk)
    · have holds : ∀ j u, xs[j]? = some u → w.cell? ((⟨g, 0, none⟩ : Addr).add j) = some u := hown.cells (g := g) rfl
      have hr' := run_append_grow (P := P) w t ty e i z hk.ht hi hz ⟨g, 0, none⟩ n cap xs hown.1 holds a m c news hl hnews (by omega) (by omega) (growslice_fits (by omega) hbytes)
      rw [hr'] at hr
      obtain ⟨rfl, rfl⟩ := (by simpa using hr : _ ∧ _)
      simp [Value.ownBlock] at hkk
      exact .inr (by omega)

/-- Where the walk is to stand still: 'go_wp2_with (refine st [..] rfl ?_)'. -/
structure Stop (p : Prop) : Prop where
  out : p
theorem Cells.alloc {w : World} {b off : Nat} {xs : List Value} (h : Cells w b off xs) (hb : b < w.heap.size) (o : Obj) : Cells (w.alloc o) b off xs := h.of_block (Below.heap_alloc w o b hb)
theorem Cells.below {w w' : World} {b off B : Nat} {xs : List Value} (h : Cells w b off xs) (hb : b < B) (hw : Below B w w') : Cells w' b off xs := h.of_block (hw.block b hb)

section
variable {P : Program} {w : World} {ops : Array Oper} {rest : List Oper} {o : Oper} {a : Act} {Q : Exit → Act → World → Prop} {d : Option Tmp} {ty : TypeId} {pos : String} {af : Array Edge}

/-- Stops, each at one kind of operation ('with_reducible refine ..'): append, copy, slicing, '&x[i]', conversions from type t, reads of type t, stores of type t, boxes of type t, == and the like at type t, make. -/
theorem stA {xs : Array Operand} {ts : Array TypeId} (s : Stop (wpList P ops Q (⟨d, .call ⟨.builtin .append, xs, ts⟩, ty, pos, af, none⟩ :: rest) a w)) : wpList P ops Q (⟨d, .call ⟨.builtin .append, xs, ts⟩, ty, pos, af, none⟩ :: rest) a w := s.out
theorem stCopy {xs : Array Operand} {ts : Array TypeId} (s : Stop (wpList P ops Q (⟨d, .call ⟨.builtin .copy, xs, ts⟩, ty, pos, af, none⟩ :: rest) a w)) : wpList P ops Q (⟨d, .call ⟨.builtin .copy, xs, ts⟩, ty, pos, af, none⟩ :: rest) a w := s.out
theorem stS {t : TypeId} {x : Operand} {l h m : Option Operand} (s : Stop (wpList P ops Q (⟨d, .slice t x l h m, ty, pos, af, none⟩ :: rest) a w)) : wpList P ops Q (⟨d, .slice t x l h m, ty, pos, af, none⟩ :: rest) a w := s.out
theorem stI (t : TypeId) {x i : Operand} (s : Stop (wpList P ops Q (⟨d, .indexAddr t x i, ty, pos, af, none⟩ :: rest) a w)) : wpList P ops Q (⟨d, .indexAddr t x i, ty, pos, af, none⟩ :: rest) a w := s.out
theorem stC (t : TypeId) {u : TypeId} {x : Operand} (s : Stop (wpList P ops Q (⟨d, .convert t u x, ty, pos, af, none⟩ :: rest) a w)) : wpList P ops Q (⟨d, .convert t u x, ty, pos, af, none⟩ :: rest) a w := s.out
theorem stL (t : TypeId) {x : Operand} (s : Stop (wpList P ops Q (⟨d, .load t x, ty, pos, af, none⟩ :: rest) a w)) : wpList P ops Q (⟨d, .load t x, ty, pos, af, none⟩ :: rest) a w := s.out
theorem stW (t : TypeId) {x y : Operand} (s : Stop (wpList P ops Q (⟨d, .store t x y, ty, pos, af, none⟩ :: rest) a w)) : wpList P ops Q (⟨d, .store t x y, ty, pos, af, none⟩ :: rest) a w := s.out
theorem stB (t : TypeId) {x : Operand} (s : Stop (wpList P ops Q (⟨d, .box t x, ty, pos, af, none⟩ :: rest) a w)) : wpList P ops Q (⟨d, .box t x, ty, pos, af, none⟩ :: rest) a w := s.out
theorem stAl (t : TypeId) (s : Stop (wpList P ops Q (⟨d, .alloc t, ty, pos, af, none⟩ :: rest) a w)) : wpList P ops Q (⟨d, .alloc t, ty, pos, af, none⟩ :: rest) a w := s.out
theorem stE (t : TypeId) {b : BinOp} {u : TypeId} {x y : Operand} (s : Stop (wpList P ops Q (⟨d, .binOp b t x y u, ty, pos, af, none⟩ :: rest) a w)) : wpList P ops Q (⟨d, .binOp b t x y u, ty, pos, af, none⟩ :: rest) a w := s.out
theorem stU (t : TypeId) {b : UnOp} {x : Operand} (s : Stop (wpList P ops Q (⟨d, .unOp b t x, ty, pos, af, none⟩ :: rest) a w)) : wpList P ops Q (⟨d, .unOp b t x, ty, pos, af, none⟩ :: rest) a w := s.out
theorem stUg (t : TypeId) {b : UnOp} {x : Operand} {g : Option (Nat × Bool)} (s : Stop (wpList P ops Q (⟨d, .unOp b t x, ty, pos, af, g⟩ :: rest) a w)) : wpList P ops Q (⟨d, .unOp b t x, ty, pos, af, g⟩ :: rest) a w := s.out
theorem stM {t : TypeId} {x y : Operand} (s : Stop (wpList P ops Q (⟨d, .makeSlice t x y, ty, pos, af, none⟩ :: rest) a w)) : wpList P ops Q (⟨d, .makeSlice t x y, ty, pos, af, none⟩ :: rest) a w := s.out
/-- The same at an operation that stands under a guard: '(first | go_skip | (with_reducible refine stSg ?_))'. -/
theorem stSg {t : TypeId} {x : Operand} {l h m : Option Operand} {g : Option (Nat × Bool)} (s : Stop (wpList P ops Q (⟨d, .slice t x l h m, ty, pos, af, g⟩ :: rest) a w)) : wpList P ops Q (⟨d, .slice t x l h m, ty, pos, af, g⟩ :: rest) a w := s.out
theorem stIg (t : TypeId) {x i : Operand} {g : Option (Nat × Bool)} (s : Stop (wpList P ops Q (⟨d, .indexAddr t x i, ty, pos, af, g⟩ :: rest) a w)) : wpList P ops Q (⟨d, .indexAddr t x i, ty, pos, af, g⟩ :: rest) a w := s.out
theorem stCg (t : TypeId) {u : TypeId} {x : Operand} {g : Option (Nat × Bool)} (s : Stop (wpList P ops Q (⟨d, .convert t u x, ty, pos, af, g⟩ :: rest) a w)) : wpList P ops Q (⟨d, .convert t u x, ty, pos, af, g⟩ :: rest) a w := s.out
theorem stLg (t : TypeId) {x : Operand} {g : Option (Nat × Bool)} (s : Stop (wpList P ops Q (⟨d, .load t x, ty, pos, af, g⟩ :: rest) a w)) : wpList P ops Q (⟨d, .load t x, ty, pos, af, g⟩ :: rest) a w := s.out
theorem stEg (t : TypeId) {b : BinOp} {u : TypeId} {x y : Operand} {g : Option (Nat × Bool)} (s : Stop (wpList P ops Q (⟨d, .binOp b t x y u, ty, pos, af, g⟩ :: rest) a w)) : wpList P ops Q (⟨d, .binOp b t x y u, ty, pos, af, g⟩ :: rest) a w := s.out
theorem stBSg {t : TypeId} {n : Nat} {ps : Array (Nat × Operand)} {g : Option (Nat × Bool)} (s : Stop (wpList P ops Q (⟨d, .buildSlice t n ps, ty, pos, af, g⟩ :: rest) a w)) : wpList P ops Q (⟨d, .buildSlice t n ps, ty, pos, af, g⟩ :: rest) a w := s.out

theorem stMU {t : TypeId} {x y z : Operand} (s : Stop (wpList P ops Q (⟨d, .mapUpdate t x y z, ty, pos, af, none⟩ :: rest) a w)) : wpList P ops Q (⟨d, .mapUpdate t x y z, ty, pos, af, none⟩ :: rest) a w := s.out
theorem stLk {t : TypeId} {x y : Operand} {b : Bool} (s : Stop (wpList P ops Q (⟨d, .lookup t x y b, ty, pos, af, none⟩ :: rest) a w)) : wpList P ops Q (⟨d, .lookup t x y b, ty, pos, af, none⟩ :: rest) a w := s.out
theorem stX (t : TypeId) {x y : Operand} (s : Stop (wpList P ops Q (⟨d, .index t x y, ty, pos, af, none⟩ :: rest) a w)) : wpList P ops Q (⟨d, .index t x y, ty, pos, af, none⟩ :: rest) a w := s.out
theorem stBS (t : TypeId) {n : Nat} {ps : Array (Nat × Operand)} (s : Stop (wpList P ops Q (⟨d, .buildSlice t n ps, ty, pos, af, none⟩ :: rest) a w)) : wpList P ops Q (⟨d, .buildSlice t n ps, ty, pos, af, none⟩ :: rest) a w := s.out

/-- A stop at a call: behind 'go_at_call N'. -/
theorem stK {f : FuncId} {args : Array Value} {R : Ending → World → Prop} (s : Stop (Calls P f args w R)) : Calls P f args w R := s.out
end

section
variable {P : Program} {w : World} {ops : Array Oper} {rest : List Oper} {o : Oper} {a : Act} {Q : Exit → Act → World → Prop}

/-- An operation that gives a value. -/
theorem val (hw : Region.wanted o (yielded ops a.tmps) = true) {v : Value} {w' : World} (hr : (execOp a.eval o).run P w = .ok (.value v) w') (h : wpList P ops Q rest (a.put o.dst v) w') : wpList P ops Q (o :: rest) a w := by
  unfold wpList
  rw [if_pos hw]
  left
  unfold Oper.wp
  rw [hr]
  exact h

/-- A struct or an array is read out of memory. -/
theorem ldRow (hw : Region.wanted o (yielded ops a.tmps) = true) (T : TypeId) (x : Operand) (ho : o.op = .load T x) {b off : Nat} (hx : a.eval x = .pointer (some ⟨b, off, none⟩)) (xs : List Value) (hc : Cells w b off xs)
    {d : TypeDesc} (hu : P.underlying T = some d) (hd : d.isRow = true) (hi : (P.info? T).map (·.size) = some xs.length)
    (h : wpList P ops Q rest (a.put o.dst (.agg xs.toArray)) w) : wpList P ops Q (o :: rest) a w := by
  refine val hw (v := .agg xs.toArray) (w' := w) ?_ h
  unfold execOp
  simp only [ho, hx]
  have hr := run_loadAt_mid (P := P) w b off T xs d hc hu hd hi
  simp [hr]

/-- An operation that gives nothing. -/
theorem skp (hw : Region.wanted o (yielded ops a.tmps) = true) {w' : World} (hr : (execOp a.eval o).run P w = .ok .skip w') (h : wpList P ops Q rest (a.put o.dst undef) w') : wpList P ops Q (o :: rest) a w := by
  unfold wpList
  rw [if_pos hw]
  left
  unfold Oper.wp
  rw [hr]
  exact h

/-- A value is laid into a new variable: the world behind it is known by what it holds. -/
theorem bx (hw : Region.wanted o (yielded ops a.tmps) = true) (T : TypeId) (x : Operand) (ho : o.op = .box T x) {v : Value} (hx : a.eval x = v)
    (h : ∀ W, W.heap.size = w.heap.size + 1 → W.heap[w.heap.size]? = some (.cells v.cells T (0, 0)) → Below w.heap.size w W → wpList P ops Q rest (a.put o.dst (.pointer (some ⟨w.heap.size, 0, none⟩))) W) : wpList P ops Q (o :: rest) a w := by
  refine val hw (v := .pointer (some ⟨w.heap.size, 0, none⟩)) (w' := w.alloc (.cells v.cells T)) ?_ (h _ (by simp) (heap_alloc_new w _) ((Below.refl _ _).alloc (Nat.le_refl _) _))
  unfold execOp
  simp only [ho, hx]
  simp [go_sem]

/-- A new variable of its type's zero value. -/
theorem al (hw : Region.wanted o (yielded ops a.tmps) = true) (T : TypeId) (ho : o.op = .alloc T) {z : Value} (hz : (P.info? T).map (·.zero) = some (some z))
    (h : ∀ W, W.heap.size = w.heap.size + 1 → W.heap[w.heap.size]? = some (.cells z.cells T (0, 0)) → Below w.heap.size w W → wpList P ops Q rest (a.put o.dst (.pointer (some ⟨w.heap.size, 0, none⟩))) W) : wpList P ops Q (o :: rest) a w := by
  refine val hw (v := .pointer (some ⟨w.heap.size, 0, none⟩)) (w' := w.alloc (.cells z.cells T)) ?_ (h _ (by simp) (heap_alloc_new w _) ((Below.refl _ _).alloc (Nat.le_refl _) _))
  unfold execOp
  simp only [ho]
  cases hq : P.info? T with
  | none => simp [hq] at hz
  | some i =>
    simp [hq] at hz
    simp [Instr.alloc, zeroValue, typeInfo, hq, hz, newVar, newRow, newObj]
    rfl

/-- A struct or an array is stored over a whole variable. -/
theorem stRow (hw : Region.wanted o (yielded ops a.tmps) = true) (T : TypeId) (x y : Operand) (ho : o.op = .store T x y) {c c' : Array Value} {b : Nat} (hx : a.eval x = .pointer (some ⟨b, 0, none⟩)) (hb : w.heap[b]? = some (.cells c T (0, 0))) (hy : a.eval y = .agg c')
    (hi : (P.info? T).map (·.size) = some c'.size) (hs : c.size = c'.size) (h1 : c'.all (·.oneCell') = true)
    (h : ∀ W, W.heap.size = w.heap.size → W.heap[b]? = some (.cells c' T (0, 0)) → w.grownBy W (some b) → wpList P ops Q rest (a.put o.dst undef) W) : wpList P ops Q (o :: rest) a w := by
  refine skp hw (w' := w.setRow b c') ?_ (h _ (by simp) (setRow_heap w b c c' T _ hb) ⟨rfl, rfl, rfl, by simp, fun k _ hk => setRow_other w b k c' (fun e => hk (by rw [e]))⟩)
  unfold execOp
  simp only [ho, hx, hy]
  simp [Instr.storeAt, Instr.sureAddr, run_storeVar_row w b T T c c' hb hi hs h1]

/-- A value of one cell is stored into a block whose content is known. -/
theorem stCell (hw : Region.wanted o (yielded ops a.tmps) = true) (T : TypeId) (x y : Operand) (ho : o.op = .store T x y) {v : Value} {c : Array Value} {tb : TypeId} {b off : Nat} (hx : a.eval x = .pointer (some ⟨b, off, none⟩)) (hb : w.heap[b]? = some (.cells c tb (0, 0)))
    (hy : a.eval y = v) (hv : v.oneCell' = true) (hi : (P.info? T).map (·.size) = some 1) (hoff : off < c.size)
    (h : ∀ W, W.heap.size = w.heap.size → W.heap[b]? = some (.cells (c.setIfInBounds off v) tb (0, 0)) → w.grownBy W (some b) → wpList P ops Q rest (a.put o.dst undef) W) : wpList P ops Q (o :: rest) a w := by
  refine skp hw (w' := w.setCell ⟨b, off, none⟩ v) ?_ (h _ (by simp) (block_set hb v) (grownBy_set w b off v))
  unfold execOp
  simp only [ho, hx, hy]
  have hc : v.cells = #[v] := by cases v <;> simp_all [Value.oneCell', Value.cells]
  have hcell : w.cell? ⟨b, off, none⟩ = some c[off] := by rw [cell_of_row w b off c tb _ hb]; simp [hoff]
  have hfr : w.frozen? ⟨b, off, none⟩ = false := frozen_of_row w b off c tb hb
  cases hq : P.info? T with
  | none => simp [hq] at hi
  | some i =>
    simp [hq] at hi
    simp [Instr.storeAt, Instr.sureAddr, storeVar, hc, sizeOf, typeInfo, hq, hi, storeCells, run_store _ _ _ _ _ hv, hcell, hfr, add_off]

/-- 'append(s, x...)': s of the call's own (or nil), x whatever slice. -/
theorem app {t e : TypeId} {size bytes : Nat} {z : Value} (hk : SK P t e size bytes z) (hw : Region.wanted o (yielded ops a.tmps) = true) (s x : Operand)
    (ho : o.op = .call { callee := .builtin .append, args := #[s, x], argTypes := #[t, t] })
    (base : Nat) {v y : Value} {n m : Nat} {xs ys : List Value} (hs : a.eval s = v) (hx : a.eval x = y)
    (hown : w.ownsRow base e size v n xs) (hy : View w y m size ys) (h1 : ∀ u ∈ ys, u.oneCell' = true)
    (h63 : n + m ≤ maxLen) (hbytes : (n + m) * bytes ≤ 140737488355328) (hbase : base ≤ w.heap.size)
    (h : ∀ p c w', w'.ownsRow base e size (.slice p (n + m) c) (n + m) (xs ++ ys.take (m * size)) → Grew w w' v (.slice p (n + m) c) → wpList P ops Q rest (a.put o.dst (.slice p (n + m) c)) w') : wpList P ops Q (o :: rest) a w := by
  obtain ⟨i, hi, hz, hs1, hs2⟩ := hk.hi
  have form : ∀ w' v' k xs', World.ownsRow w' base e size v' k xs' → ∃ p c, v' = .slice p k c := by
    intro w' v' k xs' q
    rcases q.2 with ⟨rfl, rfl⟩ | ⟨g, cap, cur, rfl, _⟩ <;> exact ⟨_, _, rfl⟩
  rcases hy.2 with ⟨rfl, rfl, rfl⟩ | ⟨b, off, cap, rfl, h2, h3, h4, h5, h6⟩
  · obtain ⟨p, c, rfl⟩ := form w v n xs hown
    refine val hw (v := .slice p n c) (w' := w) ?_ (h p c w (by simpa using hown) (Grew.refl _ _))
    have hr := run_append_owned_none (P := P) (w := w) base t o.type e i size hk.ht hi (.slice p n c) n xs hown
    unfold execOp
    simp only [ho, resolve, invoke, builtin, Sem.run_bind, Sem.run_pure, Result.andThen_ok, List.map_toArray, List.map_cons, List.map_nil, hs, hx, hr]
  · obtain ⟨v', w', hr, q1, q2⟩ := run_app (P := P) (ty := o.type) w hk base v n xs hown ⟨b, off, none⟩ m cap (ys.take (m * size)) hy.take (fun j u hj => by
      rw [List.getElem?_take] at hj
      split at hj
      · rw [add_off]; exact h6 j u hj
      · cases hj) (fun u hu => h1 u (List.mem_of_mem_take hu)) h63 hbytes hbase
    obtain ⟨p, c, rfl⟩ := form w' v' _ _ q1
    refine val hw (v := .slice p (n + m) c) (w' := w') ?_ (h p c w' q1 q2)
    unfold execOp
    simp only [ho, resolve, invoke, builtin, Sem.run_bind, Sem.run_pure, Result.andThen_ok, List.map_toArray, List.map_cons, List.map_nil, hs, hx, hr]

/-- The same of bytes, the result's length and bytes as one wants them. -/
theorem appB {t e : TypeId} {z : Value} (hk : SK P t e 1 1 z) (hw : Region.wanted o (yielded ops a.tmps) = true) (s x : Operand)
    (ho : o.op = .call { callee := .builtin .append, args := #[s, x], argTypes := #[t, t] })
    (base : Nat) {v y : Value} {n m : Nat} {xs ys : List UInt8} (hs : a.eval s = v) (hx : a.eval x = y)
    (hown : w.ownsRow base e 1 v n (bv xs)) (hy : View w y m 1 (bv ys)) (hbase : base ≤ w.heap.size)
    (k : Nat) (hkk : n + m = k) (hmax : k ≤ 140737488355328) (zs : List UInt8) (hz : xs ++ ys.take m = zs)
    (h : ∀ p c w', w'.ownsRow base e 1 (.slice p k c) k (bv zs) → Grew w w' v (.slice p k c) → wpList P ops Q rest (a.put o.dst (.slice p k c)) w') : wpList P ops Q (o :: rest) a w := by
  subst hkk
  subst hz
  refine app hk hw s x ho base hs hx hown hy (bv_one ys) (by simp [maxLen]; omega) (by omega) hbase ?_
  intro p c w' h1 h2
  refine h p c w' ?_ h2
  simpa [bv_append, bv_take] using h1

theorem view_cut {y : Option Addr} {n c size : Nat} {xs : List Value} (hy : View w (.slice y n c) n size xs) (l h m : Nat) (h1 : l ≤ h) (h2 : h ≤ m) (h3 : m ≤ c) (hx : h * size ≤ xs.length) (hsz : 0 < size) :
    View w (sliced y l h m size) (h - l) size ((xs.drop (l * size)).take ((m - l) * size)) ∧ (∀ k, (sliced y l h m size).ownBlock = some k → (Value.slice y n c).ownBlock = some k) := by
  unfold sliced
  rcases hy.2 with ⟨he, h4, h5⟩ | ⟨b, off, cap, he, h4, h5, h6, h7, h8⟩
  · simp only [Value.slice.injEq] at he
    obtain ⟨rfl, rfl, rfl⟩ := he
    subst h5
    have : m = 0 := by omega
    subst this
    have : h = 0 := by omega
    subst this
    have : l = 0 := by omega
    subst this
    exact ⟨⟨by simp, .inl (by simp)⟩, by simp [Value.ownBlock]⟩
  · simp only [Value.slice.injEq] at he
    obtain ⟨rfl, -, rfl⟩ := he
    have hlen : ((xs.drop (l * size)).take ((m - l) * size)).length ≤ (m - l) * size := by rw [List.length_take]; omega
    have hge : (h - l) * size ≤ ((xs.drop (l * size)).take ((m - l) * size)).length := by
      rw [List.length_take, List.length_drop, Nat.mul_sub_right_distrib, Nat.mul_sub_right_distrib]
      have := Nat.mul_le_mul_right size h2
      omega
    by_cases hml : m = l
    · subst hml
      simp only [if_true]
      refine ⟨⟨hge, .inr ⟨b, off, m - m, rfl, hlen, by omega, by omega, h7, ?_⟩⟩, fun k hk => by simpa [Value.ownBlock] using hk⟩
      intro j v hj
      simp at hj
    · rw [if_neg hml]
      simp only [Option.map_some, add_off]
      refine ⟨⟨hge, .inr ⟨b, off + l * size, m - l, rfl, hlen, by omega, by omega, h7, ?_⟩⟩, fun k hk => by simpa [Value.ownBlock] using hk⟩
      intro j v hj
      rw [List.getElem?_take] at hj
      split at hj
      · exact h8.drop (l * size) j v hj
      · cases hj

theorem sliced_form (y : Option Addr) (l h m s : Nat) : ∃ p, sliced y l h m s = .slice p (h - l) (m - l) := ⟨_, rfl⟩

/-- 'x[l:h:m]', whichever of the three stand there. -/
theorem slc {t e : TypeId} {size bytes : Nat} {z : Value} (hk : SK P t e size bytes z) (hw : Region.wanted o (yielded ops a.tmps) = true) (x : Operand) (lo hi mx : Option Operand)
    (ho : o.op = .slice t x lo hi mx) {y : Option Addr} {n c : Nat} {xs : List Value} (hx : a.eval x = .slice y n c) (hy : View w (.slice y n c) n size xs)
    (l h m : Nat) (hb : (Instr.sliceBounds true n c (lo.map a.eval) (hi.map a.eval) (mx.map a.eval)).run P w = .ok (l, h, m) w)
    (h1 : l ≤ h) (h2 : h ≤ m) (h3 : m ≤ c) (hl : h * size ≤ xs.length)
    (hn : ∀ p, View w (.slice p (h - l) (m - l)) (h - l) size ((xs.drop (l * size)).take ((m - l) * size)) → (∀ k, (Value.slice p (h - l) (m - l)).ownBlock = some k → (Value.slice y n c).ownBlock = some k) →
      wpList P ops Q rest (a.put o.dst (.slice p (h - l) (m - l))) w) : wpList P ops Q (o :: rest) a w := by
  obtain ⟨i, hi', hz, hs1, hs2⟩ := hk.hi
  obtain ⟨q1, q2⟩ := view_cut hy l h m h1 h2 h3 hl hk.hsz
  obtain ⟨p, hp⟩ := sliced_form y l h m size
  rw [hp] at q1 q2
  refine val hw (v := .slice p (h - l) (m - l)) (w' := w) ?_ (hn p q1 q2)
  rw [← hp]
  unfold execOp
  simp only [ho, hx]
  simp [Instr.sliceAt, Instr.slice, run_underlying hk.ht, hb, sizeOf, typeInfo, hi', hs1, sliced]

/-- 'x[:h]', 'x[:h:m]': the address stays. -/
theorem slc0 {t e : TypeId} {size bytes : Nat} {z : Value} (hk : SK P t e size bytes z) (hw : Region.wanted o (yielded ops a.tmps) = true) (x : Operand) (hi mx : Option Operand)
    (ho : o.op = .slice t x none hi mx) {y : Option Addr} {n c : Nat} (hx : a.eval x = .slice y n c)
    (h m : Nat) (hb : (Instr.sliceBounds true n c none (hi.map a.eval) (mx.map a.eval)).run P w = .ok (0, h, m) w)
    (hn : wpList P ops Q rest (a.put o.dst (.slice y h m)) w) : wpList P ops Q (o :: rest) a w := by
  obtain ⟨i, hi', hz, hs1, hs2⟩ := hk.hi
  refine val hw (v := .slice y h m) (w' := w) ?_ hn
  unfold execOp
  simp only [ho, hx]
  have : Option.map (fun q : Addr => q.add 0) y = y := by cases y <;> simp [Addr.add]
  simp [Instr.sliceAt, Instr.slice, run_underlying hk.ht, hb, sizeOf, typeInfo, hi', hs1, this]

theorem run_bounds_h (k : IntKind) (n c h : Nat) (hc : h ≤ c) : (Instr.sliceBounds true n c none (some (.int k h)) none).run P w = .ok (0, h, c) w := by
  simp [Instr.sliceBounds, run_sliceBound, hc]
theorem run_bounds_l (k : IntKind) (n c l : Nat) (hl : l ≤ n) : (Instr.sliceBounds true n c (some (.int k l)) none none).run P w = .ok (l, n, c) w := by
  simp [Instr.sliceBounds, run_sliceBound, hl]
theorem run_bounds_lh (k k' : IntKind) (n c l h : Nat) (hl : l ≤ h) (hc : h ≤ c) : (Instr.sliceBounds true n c (some (.int k l)) (some (.int k' h)) none).run P w = .ok (l, h, c) w := by
  simp [Instr.sliceBounds, run_sliceBound, hl, hc]
theorem run_bounds_hm (k k' : IntKind) (n c h m : Nat) (hl : h ≤ m) (hc : m ≤ c) : (Instr.sliceBounds true n c none (some (.int k h)) (some (.int k' m))).run P w = .ok (0, h, m) w := by
  simp [Instr.sliceBounds, run_sliceBound, hl, hc]

/-- 'x[:h]'. -/
theorem slcH {t e : TypeId} {size bytes : Nat} {z : Value} (hk : SK P t e size bytes z) (hw : Region.wanted o (yielded ops a.tmps) = true) (x hi : Operand)
    (ho : o.op = .slice t x none (some hi) none) {y : Option Addr} {n c : Nat} (hx : a.eval x = .slice y n c)
    {k : IntKind} (h : Nat) (hh : a.eval hi = .int k h) (hc : h ≤ c)
    (hn : wpList P ops Q rest (a.put o.dst (.slice y h c)) w) : wpList P ops Q (o :: rest) a w :=
  slc0 hk hw x (some hi) none ho hx h c (by simp only [Option.map_some, hh, Option.map_none]; exact run_bounds_h k n c h hc) hn

/-- 'x[:h:m]'. -/
theorem slcHM {t e : TypeId} {size bytes : Nat} {z : Value} (hk : SK P t e size bytes z) (hw : Region.wanted o (yielded ops a.tmps) = true) (x hi mx : Operand)
    (ho : o.op = .slice t x none (some hi) (some mx)) {y : Option Addr} {n c : Nat} (hx : a.eval x = .slice y n c)
    {k k' : IntKind} (h m : Nat) (hh : a.eval hi = .int k h) (hm : a.eval mx = .int k' m) (hhm : h ≤ m) (hc : m ≤ c)
    (hn : wpList P ops Q rest (a.put o.dst (.slice y h m)) w) : wpList P ops Q (o :: rest) a w :=
  slc0 hk hw x (some hi) (some mx) ho hx h m (by simp only [Option.map_some, hh, hm]; exact run_bounds_hm k k' n c h m hhm hc) hn

/-- 'x[l:]'. -/
theorem slcL {t e : TypeId} {size bytes : Nat} {z : Value} (hk : SK P t e size bytes z) (hw : Region.wanted o (yielded ops a.tmps) = true) (x lo : Operand)
    (ho : o.op = .slice t x (some lo) none none) {y : Option Addr} {n c : Nat} {xs : List Value} (hx : a.eval x = .slice y n c) (hy : View w (.slice y n c) n size xs)
    {k : IntKind} (l : Nat) (hl : a.eval lo = .int k l) (hln : l ≤ n)
    (hn : ∀ p, View w (.slice p (n - l) (c - l)) (n - l) size (xs.drop (l * size)) → (∀ k, (Value.slice p (n - l) (c - l)).ownBlock = some k → (Value.slice y n c).ownBlock = some k) →
      wpList P ops Q rest (a.put o.dst (.slice p (n - l) (c - l))) w) : wpList P ops Q (o :: rest) a w := by
  have hnc : n ≤ c ∧ xs.length ≤ c * size := by
    rcases hy.2 with ⟨he, h4, h5⟩ | ⟨b, off, cap, he, h4, h5, _⟩
    · simp only [Value.slice.injEq] at he
      obtain ⟨rfl, rfl, rfl⟩ := he
      simp [h5]
    · simp only [Value.slice.injEq] at he
      obtain ⟨rfl, -, rfl⟩ := he
      exact ⟨h5, h4⟩
  refine slc hk hw x (some lo) none none ho hx hy l n c (by simp only [Option.map_some, hl, Option.map_none]; exact run_bounds_l k n c l hln) hln hnc.1 (Nat.le_refl _) hy.1 ?_
  intro p h1 h2
  refine hn p ?_ h2
  rwa [List.take_of_length_le (by rw [List.length_drop, Nat.mul_sub_right_distrib]; omega)] at h1

/-- 'x[l:h]'. -/
theorem slcLH {t e : TypeId} {size bytes : Nat} {z : Value} (hk : SK P t e size bytes z) (hw : Region.wanted o (yielded ops a.tmps) = true) (x lo hi : Operand)
    (ho : o.op = .slice t x (some lo) (some hi) none) {y : Option Addr} {n c : Nat} {xs : List Value} (hx : a.eval x = .slice y n c) (hy : View w (.slice y n c) n size xs)
    {k k' : IntKind} (l h : Nat) (hl : a.eval lo = .int k l) (hh : a.eval hi = .int k' h) (hlh : l ≤ h) (hhx : h * size ≤ xs.length)
    (hn : ∀ p, View w (.slice p (h - l) (c - l)) (h - l) size (xs.drop (l * size)) → (∀ k, (Value.slice p (h - l) (c - l)).ownBlock = some k → (Value.slice y n c).ownBlock = some k) →
      wpList P ops Q rest (a.put o.dst (.slice p (h - l) (c - l))) w) : wpList P ops Q (o :: rest) a w := by
  have hs := hk.hsz
  have hnc : h ≤ c ∧ xs.length ≤ c * size := by
    rcases hy.2 with ⟨he, h4, h5⟩ | ⟨b, off, cap, he, h4, h5, _⟩
    · simp only [Value.slice.injEq] at he
      obtain ⟨rfl, rfl, rfl⟩ := he
      subst h5
      refine ⟨?_, by simp⟩
      rcases Nat.eq_zero_or_pos h with h0 | h0
      · omega
      · have := Nat.mul_pos h0 hs; simp at hhx; omega
    · simp only [Value.slice.injEq] at he
      obtain ⟨rfl, -, rfl⟩ := he
      exact ⟨Nat.le_of_mul_le_mul_right (Nat.le_trans hhx h4) hs, h4⟩
  refine slc hk hw x (some lo) (some hi) none ho hx hy l h c (by simp only [Option.map_some, hl, hh, Option.map_none]; exact run_bounds_lh k k' n c l h hlh hnc.1) hlh hnc.1 (Nat.le_refl _) hhx ?_
  intro p h1 h2
  refine hn p ?_ h2
  rwa [List.take_of_length_le (by rw [List.length_drop, Nat.mul_sub_right_distrib]; omega)] at h1

/-- '&x[i]': the address shows the element's cells. -/
theorem idx {t e : TypeId} {size bytes : Nat} {z : Value} (hk : SK P t e size bytes z) (hw : Region.wanted o (yielded ops a.tmps) = true) (x ix : Operand)
    (ho : o.op = .indexAddr t x ix) {y : Option Addr} {n c : Nat} {xs : List Value} (hx : a.eval x = .slice y n c) (hy : View w (.slice y n c) n size xs)
    {k : IntKind} {i : Int} (hi : a.eval ix = .int k i) (j : Nat) (hj : i = j) (hlt : j < n)
    (hn : ∀ b off, Cells w b off ((xs.drop (j * size)).take size) → (Value.slice y n c).ownBlock = some b → wpList P ops Q rest (a.put o.dst (.pointer (some ⟨b, off, none⟩))) w) : wpList P ops Q (o :: rest) a w := by
  obtain ⟨q, hi', hz, hs1, hs2⟩ := hk.hi
  rcases hy.2 with ⟨he, h4, h5⟩ | ⟨b, off, cap, he, h4, h5, h6, h7, h8⟩
  · omega
  · simp only [Value.slice.injEq] at he
    obtain ⟨rfl, _, rfl⟩ := he
    subst hj
    refine val hw (v := .pointer (some ⟨b, off + j * size, none⟩)) (w' := w) ?_ (hn b (off + j * size) ?_ (by simp [Value.ownBlock]))
    · unfold execOp
      simp only [ho, hx, hi]
      simp [Instr.indexAt, run_underlying hk.ht, asIntOf, sizeOf, typeInfo, hi', hs1, hlt, add_off]
    · intro r v hr
      rw [List.getElem?_take] at hr
      split at hr
      · exact h8.drop (j * size) r v hr
      · cases hr

/-- 'string(x)' of bytes. -/
theorem str {t d e : TypeId} {z : Value} (hk : SK P t e 1 1 z) (he : P.underlying e = some (.int .u8)) (hd : P.underlying d = some .string) (hw : Region.wanted o (yielded ops a.tmps) = true) (x : Operand)
    (ho : o.op = .convert t d x) {y : Option Addr} {n c : Nat} {l : List UInt8} (hx : a.eval x = .slice y n c) (hy : View w (.slice y n c) n 1 (bv l))
    (hn : wpList P ops Q rest (a.put o.dst (.string ⟨(l.take n).toArray⟩)) w) : wpList P ops Q (o :: rest) a w := by
  refine val hw (v := .string ⟨(l.take n).toArray⟩) (w' := w) ?_ hn
  have hr : (convert t d (.slice y n c)).run P w = .ok (.string ⟨(l.take n).toArray⟩) w := by
    rcases hy.2 with ⟨he', h4, h5⟩ | ⟨b, off, cap, he', h4, h5, h6, h7, h8⟩
    · simp only [Value.slice.injEq] at he'
      obtain ⟨rfl, rfl, rfl⟩ := he'
      rw [run_convert_bytes_nil w t e hk.ht he 0 0 d hd]
      rfl
    · simp only [Value.slice.injEq] at he'
      obtain ⟨rfl, -, rfl⟩ := he'
      have hn1 := hy.1
      simp only [bv, List.length_map, Nat.mul_one] at hn1
      rw [run_convert_bytes_arg w t e hk.ht he b off n c ((l.take n).map fun b => (b.toNat : Int)) (by simp; omega) ?_ d hd]
      · simp only [strOfNums, List.map_map]
        congr 3
        rw [show ((fun n : Int => UInt8.ofNat n.toNat) ∘ fun b : UInt8 => (b.toNat : Int)) = id from funext fun x => by simp]
        simp
      · intro i hi
        rw [h8 i (.int .u8 (l[i]'(by omega)).toNat) (by simp [bv, show i < l.length by omega])]
        simp [List.getD, hi, show i < l.length by omega]
  unfold execOp
  simp only [ho, hx]
  simp [hr]
end
end Go.Proofs.YtjnfijnfjblbnaaGreatDoor
