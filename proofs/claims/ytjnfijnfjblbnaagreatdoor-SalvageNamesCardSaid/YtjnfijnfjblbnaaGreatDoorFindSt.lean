/- What stands in memory while a table of bits is filled. -/
import Derived.Test.YtjnfijnfjblbnaaGreatDoorCrcWalks
import Derived.Maps.Own
import Derived.Maps.OwnOps
import Derived.Maps.OwnSet
namespace Go.Proofs.YtjnfijnfjblbnaaGreatDoor
open Go.RowKit Go.Maps
set_option linter.unusedVariables false

theorem law32 : Keyed Tryz.prog 44 := int_keyed Tryz.underlying44
theorem zeroI (w : World) : (zeroValue 3).run Tryz.prog w = .ok (.int .i64 0) w := by kernel_rfl
theorem lit1 (v : Int) (w : World) : (Instr.buildSlice 22 1 #[(0, .int .u8 v)]).run Tryz.prog w = .ok (.slice (some ⟨w.heap.size, 0, none⟩) 1 1) (w.alloc (.cells #[.int .u8 v] 5)) := by kernel_rfl
def u32V (l : List Nat) : Array Value := (l.map fun v : Nat => Value.int .u32 (v : Int)).toArray
theorem u32V_at (l : List Nat) (j : Nat) (h : j < l.length) : (u32V l)[j]? = some (.int .u32 (l.getD j 0 : Nat)) := by
  unfold u32V
  rw [List.getElem?_toArray, List.getElem?_map, List.getElem?_eq_getElem h, List.getD_eq_getElem?_getD, List.getElem?_eq_getElem h]
  rfl
theorem u32V_set (l : List Nat) (j v : Nat) : (u32V l).setIfInBounds j (.int .u32 (v : Int)) = u32V (l.set j v) := by
  unfold u32V
  simp [List.map_set]

theorem wf32 {d : Nat} (h : d < 4294967296) : (Lit.int .u32 (d : Int)).wf = true := by
  have h1 : IntKind.u32.min = 0 := rfl
  have h2 : IntKind.u32.max = 4294967295 := rfl
  simp only [Lit.wf, Bool.and_eq_true, decide_eq_true_eq]
  omega
theorem wf64 {d : Int} (h0 : -9223372036854775808 ≤ d) (h : d ≤ 9223372036854775807) : (Lit.int .i64 d).wf = true := by
  have h1 : IntKind.i64.min = -9223372036854775808 := rfl
  have h2 : IntKind.i64.max = 9223372036854775807 := rfl
  simp only [Lit.wf, Bool.and_eq_true, decide_eq_true_eq]
  omega
theorem range_set (n k v : Nat) (f : Nat → Nat) : ((List.range n).map f).set k v = (List.range n).map fun j => if j = k then v else f j := by
  apply List.ext_getElem?
  intro i
  rw [List.getElem?_set, List.getElem?_map, List.getElem?_map]
  by_cases e : k = i
  · subst e
    by_cases h : k < n <;> simp [h]
  · rw [if_neg e]
    by_cases h : i < n
    · simp [h, Ne.symm e]
    · simp [h]
theorem range_step (n k v : Nat) (f g : Nat → Nat) (hv : v = g k) : (((List.range n).map fun j => if j < k then g j else f j).set k v) = (List.range n).map fun j => if j < k + 1 then g j else f j := by
  rw [range_set]
  apply List.map_congr_left
  intro j _
  by_cases e : j = k
  · subst e; simp [hv]
  · rw [if_neg e]
    by_cases h : j < k
    · rw [if_pos h, if_pos (by omega)]
    · rw [if_neg h, if_neg (by omega)]

theorem grownBy_new {w a b : World} {row : Option Nat} {k : Nat} (h : w.grownBy a row) (g : a.grownBy b (some k)) (hk : w.heap.size ≤ k) : w.grownBy b row :=
  ⟨g.os.trans h.os, g.tape.trans h.tape, g.output.trans h.output, Nat.le_trans h.size g.size, fun i hi hne => (g.block i (by have := h.size; omega) (fun e => by cases e; omega)).trans (h.block i hi hne)⟩
theorem grownBy_below {w a b : World} {row : Option Nat} (h : w.grownBy a row) (g : Below a.heap.size a b) : w.grownBy b row :=
  ⟨g.os.trans h.os, g.tape.trans h.tape, g.output.trans h.output, Nat.le_trans h.size g.size, fun i hi hne => (g.block i (by have := h.size; omega)).trans (h.block i hi hne)⟩
theorem own_kept {w w' : World} {b n : Nat} {D : DataW Unit} {R : Value → Option (DataW Unit × List MemPlace)} {P : Program} {k : TypeId} (h : w.ownsMap P k R b n D) (hb : w'.heap[b]? = w.heap[b]?) : w'.ownsMap P k R b n D := by
  obtain ⟨es, clock, h1, h2⟩ := h
  exact ⟨es, clock, hb.trans h1, h2⟩

/-- tb: the table's block; mb: the map's; zb: a byte's; db: the differences'. -/
structure FillSt (w wr : World) (tb mb zb db : Nat) (cs : Array Value) (T : TypeId) (k : Nat) (D : DataW Unit) (vs : List Nat) : Prop where
  g : w.grownBy wr (some tb)
  hb : wr.heap[tb]? = some (.cells cs T (0, 0))
  m : wr.ownsMap Tryz.prog 44 (plainElem (H := Unit) Tryz.prog 3) mb k D
  z : wr.heap[zb]? = some (.cells #[.int .u8 0] 5 (0, 0))
  d : wr.heap[db]? = some (.cells (u32V vs) 112 (0, 0))
  l0 : tb < w.heap.size
  l1 : w.heap.size ≤ mb
  l2 : mb < zb
  l3 : zb < db
  l4 : db < wr.heap.size
theorem FillSt.below {w wr W : World} {tb mb zb db k : Nat} {cs : Array Value} {T : TypeId} {D : DataW Unit} {vs : List Nat} (h : FillSt w wr tb mb zb db cs T k D vs) (b : Below wr.heap.size wr W) : FillSt w W tb mb zb db cs T k D vs := by
  have h0 := h.l0
  have h1 := h.l1
  have h2 := h.l2
  have h3 := h.l3
  have h4 := h.l4
  exact ⟨grownBy_below h.g b, (b.block tb (by omega)).trans h.hb, own_kept h.m (b.block mb (by omega)), (b.block zb (by omega)).trans h.z, (b.block db (by omega)).trans h.d, h0, h1, h2, h3, by have := b.size; omega⟩
theorem FillSt.setD {w wr W : World} {tb mb zb db k : Nat} {cs : Array Value} {T : TypeId} {D : DataW Unit} {vs vs' : List Nat} (h : FillSt w wr tb mb zb db cs T k D vs) (g : wr.grownBy W (some db)) (hd : W.heap[db]? = some (.cells (u32V vs') 112 (0, 0))) : FillSt w W tb mb zb db cs T k D vs' := by
  have h0 := h.l0
  have h1 := h.l1
  have h2 := h.l2
  have h3 := h.l3
  have h4 := h.l4
  exact ⟨grownBy_new h.g g (by omega), keep g h.hb (by omega), own_kept h.m (g.block mb (by omega) (by simp; omega)), keep g h.z (by omega), hd, h0, h1, h2, h3, by have := g.size; omega⟩
theorem FillSt.put {w wr W : World} {tb mb zb db k k' : Nat} {cs : Array Value} {T : TypeId} {D D' : DataW Unit} {vs : List Nat} (h : FillSt w wr tb mb zb db cs T k D vs) (g : wr.grownBy W (some mb)) (hd : W.ownsMap Tryz.prog 44 (plainElem (H := Unit) Tryz.prog 3) mb k' D') : FillSt w W tb mb zb db cs T k' D' vs := by
  have h0 := h.l0
  have h1 := h.l1
  have h2 := h.l2
  have h3 := h.l3
  have h4 := h.l4
  exact ⟨grownBy_new h.g g (by omega), keep g h.hb (by omega), hd, keep g h.z (by omega), keep g h.d (by omega), h0, h1, h2, h3, by have := g.size; omega⟩
theorem FillSt.zero {w wr : World} {tb mb zb db k : Nat} {cs : Array Value} {T : TypeId} {D : DataW Unit} {vs : List Nat} (h : FillSt w wr tb mb zb db cs T k D vs) : View wr (.slice (some ⟨zb, 0, none⟩) 1 1) 1 1 (bv [0]) := by
  have h3 := h.l3
  have h4 := h.l4
  refine ⟨by simp [bv], .inr ⟨zb, 0, 1, rfl, by simp [bv], Nat.le_refl _, by decide, by omega, fun j u hj => ?_⟩⟩
  rw [cell_of_row _ _ _ _ _ _ h.z]
  simpa [bv] using hj
theorem FillSt.drew {w wr : World} {tb mb zb db k : Nat} {cs : Array Value} {T : TypeId} {D : DataW Unit} {vs : List Nat} (h : FillSt w wr tb mb zb db cs T k D vs) : FillSt w wr.drew tb mb zb db cs T k D vs :=
  ⟨⟨h.g.os, h.g.tape, h.g.output, h.g.size, h.g.block⟩, h.hb, h.m, h.z, h.d, h.l0, h.l1, h.l2, h.l3, h.l4⟩
/-- An older block than the fill's stands. -/
theorem FillSt.old {w wr : World} {tb mb zb db k : Nat} {cs : Array Value} {T : TypeId} {D : DataW Unit} {vs : List Nat} (h : FillSt w wr tb mb zb db cs T k D vs) {b : Nat} {o : Obj} (hb : w.heap[b]? = some o) (hne : b ≠ tb) : wr.heap[b]? = some o :=
  (h.g.block b (Array.getElem?_eq_some_iff.1 hb).1 (by simpa using hne)).trans hb

theorem made0 (b : UInt8) : Crc.sum [b] ^^^ Crc.sum [0] = Crc.steps 8 b.toNat := by
  rw [Crc.sum_eq, Crc.sum_eq, Crc.feed_cons, Crc.feed_nil, Crc.feed_cons, Crc.feed_nil, Crc.steps_xor, Crc.steps_xor]
  have e : Crc.steps 8 (0 : UInt8).toNat = 0 := by rw [show (0 : UInt8).toNat = 0 from rfl, Crc.steps_zero]
  rw [e, Nat.xor_zero, Nat.xor_comm (Crc.steps 8 4294967295), Nat.xor_assoc, Nat.xor_assoc]
  rw [← Nat.xor_assoc 4294967295, Nat.xor_comm 4294967295 (Crc.steps 8 4294967295), Nat.xor_assoc (Crc.steps 8 4294967295), Nat.xor_self, Nat.xor_zero, Nat.xor_self, Nat.xor_zero]
theorem made1 (d : Nat) (h : d < 4294967296) : Crc.update d [0] ^^^ Crc.sum [0] = Crc.steps 8 d := by
  unfold Crc.update
  rw [Crc.inv_xor (Crc.feed_lt _ (Crc.inv_lt _)), Crc.inv_xor h, Crc.sum_eq, Crc.feed_cons, Crc.feed_nil, Crc.feed_cons, Crc.feed_nil]
  have e : (0 : UInt8).toNat = 0 := rfl
  rw [e, Nat.xor_zero, Nat.xor_zero, Crc.steps_xor]
  rw [Nat.xor_assoc, Nat.xor_assoc, Nat.xor_comm 4294967295 (Crc.steps 8 4294967295 ^^^ 4294967295), Nat.xor_assoc (Crc.steps 8 4294967295), Nat.xor_self, Nat.xor_zero, Nat.xor_self, Nat.xor_zero]
end Go.Proofs.YtjnfijnfjblbnaaGreatDoor
