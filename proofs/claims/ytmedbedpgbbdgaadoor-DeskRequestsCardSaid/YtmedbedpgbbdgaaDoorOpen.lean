/- What a row's argument and its listed variable give to a walk: a []byte shows its bytes; the table of the desk's shapes holds its cells. -/
import Derived.Test.YtmedbedpgbbdgaaDoorDeskAll
import Derived.ProofKit
import Derived.Lib.LaidTab
import Derived.SizedLaws
import Derived.OpenShut
namespace Go.Proofs.YtmedbedpgbbdgaaDoor
open Go.ChangeShapes Go.WideShapes Go.ChangeAt Go.RowKit
set_option linter.unusedVariables false

section
variable {H : Type} {enc : TypeId × Value → H} {P : Program} {w : World} {base : Nat} {sp : Nat → Bool} {held : Bool}

theorem byte_bounds {x : Int} (h : (Lit.int .u8 x).wf = true) : 0 ≤ x ∧ x < 256 := by
  have h1 : IntKind.u8.min = 0 := rfl
  have h2 : IntKind.u8.max = 255 := rfl
  simp only [Lit.wf, Bool.and_eq_true, decide_eq_true_eq] at h
  omega

/-- Integers of a byte's size, as bytes. -/
def ub (zs : List Int) : List UInt8 := zs.map fun z => UInt8.ofNat z.toNat
theorem bv_ub {zs : List Int} (h : ∀ z ∈ zs, 0 ≤ z ∧ z < 256) : bv (ub zs) = zs.map fun z => Value.int .u8 z := by
  simp only [bv, ub, List.map_map]
  apply List.map_congr_left
  intro z hz
  obtain ⟨h0, h1⟩ := h z hz
  exact (byteV h0 h1).symm

/-- A []byte that came in: what it shows; how long it may be. -/
theorem opened {t e : TypeId} (ht : P.underlying t = some (.slice e)) (he : P.underlying e = some (.int .u8)) (hc : P.cellsOf e = 1) {W : World} {bs : Nat} {v : Value} {d : DataW H} {p : List MemPlace}
    (hv : Cell.okWide P W .any bs t v) (h0 : ∃ fuel, DataW.trod enc P W 0 (fun _ => true) true fuel t [v] = some (d, p)) :
    ∃ a m c l, v = .slice a m c ∧ View W (.slice a m c) m 1 (bv l) ∧ l.length = m ∧ m ≤ c ∧ ((d = .nil ∧ m = 0) ∨ ∃ es rs, d = .slice es rs ∧ es.length = m) := by
  obtain ⟨fuel, hf⟩ := h0
  rcases open_ints ht he hc hf with ⟨hcs, hx⟩ | ⟨a, len, cap, zs, hcs, _, hl, hm, hz, hx, hcell, hwz⟩
  · simp only [List.cons.injEq, and_true] at hcs
    simp only [Prod.mk.injEq] at hx
    exact ⟨none, 0, 0, [], hcs, View.nil _ _, rfl, Nat.le_refl _, .inl ⟨hx.1, rfl⟩⟩
  · simp only [List.cons.injEq, and_true] at hcs
    subst hcs
    simp only [Prod.mk.injEq] at hx
    simp only [if_true] at hz
    have hok : len ≤ cap ∧ (cap : Int) ≤ IntKind.i64.max ∧ W.has P .any bs a e cap := by
      simpa only [Cell.okWide, ht, Cell.ok] using hv
    obtain ⟨_, _, _, hspot, row, cells, hsh, _⟩ := hok
    have hb : a.block < W.heap.size := by
      apply Classical.byContradiction
      intro hn
      have : W.heap[a.block]? = none := by simp; omega
      simp [World.shape?, this] at hsh
    obtain ⟨b, off, spot⟩ := a
    simp only at hspot hb
    subst hspot
    have hw' : ∀ z ∈ zs.take len, 0 ≤ z ∧ z < 256 := fun z hz' => byte_bounds (hwz z (List.mem_of_mem_take hz'))
    refine ⟨some ⟨b, off, none⟩, len, cap, ub (zs.take len), rfl, ⟨by simp [bv, ub]; omega, .inr ⟨b, off, cap, rfl, by simp [bv, ub]; omega, hl, hm, hb, ?_⟩⟩, by simp [ub]; omega, hl, .inr ⟨_, _, hx.1, by simp [lits]; omega⟩⟩
    rw [bv_ub hw']
    intro j u hj
    rw [List.getElem?_map, Option.map_eq_some_iff] at hj
    obtain ⟨z, hj, rfl⟩ := hj
    rw [List.getElem?_take] at hj
    split at hj
    · have := hcell j (by omega)
      have ha : (⟨b, off, none⟩ : Addr).add j = ⟨b, off + j, none⟩ := by unfold Addr.add; split <;> simp_all
      rw [ha] at this
      rw [this]
      simp [List.getD, hj]
    · cases hj

/-- A struct whose fields are bools. -/
theorem bools_of_struct {fuel : Nat} {t : TypeId} {fs : Array Field} {cs : List Value} {zs : List Bool} {p : List MemPlace} (ht : P.underlying t = some (.struct fs))
    (hf : ∀ (i : Nat) (f : Field), fs[i]? = some f → P.underlying f.type = some .bool ∧ f.offset = i ∧ P.cellsOf f.type = 1) (hct : P.cellsOf t = fs.size)
    (h : DataW.trod enc P w base sp held fuel t cs = some (.agg (zs.map fun z => .lit (.bool z)), p)) : cs = zs.map fun z => Value.bool z := by
  obtain ⟨xs, n, rfl, hx, hl, hxl, hall⟩ := DataW.trod_struct ht h
  have hxs : xs.map (·.1) = zs.map fun z => (DataW.lit (.bool z) : DataW H) := by
    have := congrArg Prod.fst hx
    simpa using this.symm
  have hzl : zs.length = fs.size := by
    have := congrArg List.length hxs
    simp at this
    omega
  apply List.ext_getElem?
  intro i
  by_cases hi : i < fs.size
  · obtain ⟨hu, ho, hc⟩ := hf i fs[i] (by simp [hi])
    have h1 := hall i fs[i] (by simp [hi])
    obtain ⟨b, hb⟩ : ∃ b, xs[i]? = some b := ⟨xs[i]'(by omega), List.getElem?_eq_getElem (by omega)⟩
    rw [hb, ho, hc] at h1
    obtain ⟨z, hcz, rfl⟩ := DataW.trod_bool hu h1
    have h2 : cs[i]? = some (.bool z) := by
      have := congrArg (·[0]?) hcz
      simpa [List.getElem?_take, List.getElem?_drop] using this
    have h3 : (xs.map (·.1))[i]? = some (DataW.lit (.bool z) : DataW H) := by simp [hb]
    rw [hxs] at h3
    simp only [List.getElem?_map, Option.map_eq_some_iff, DataW.lit.injEq, Lit.bool.injEq] at h3
    obtain ⟨z', hz', rfl⟩ := h3
    simp [h2, hz']
  · rw [List.getElem?_eq_none (by omega), List.getElem?_eq_none (by simp; omega)]

/-- Rows of k cells each, one behind the other. -/
theorem flat_of_rows {k : Nat} : ∀ {n : Nat} {cs : List Value} {rows : List (List Value)}, cs.length = n * k → rows.length = n → (∀ i, i < n → rows[i]? = some ((cs.drop (i * k)).take k)) → cs = rows.flatten
  | 0, cs, rows, hl, hr, _ => by
    obtain rfl : cs = [] := List.eq_nil_of_length_eq_zero (by simpa using hl)
    obtain rfl : rows = [] := List.eq_nil_of_length_eq_zero hr
    rfl
  | n + 1, cs, [], hl, hr, _ => by simp at hr
  | n + 1, cs, r :: rows, hl, hr, h => by
    have h0 := h 0 (by omega)
    simp at h0
    have ih := flat_of_rows (k := k) (n := n) (cs := cs.drop k) (rows := rows) (by simp [hl, Nat.add_mul]) (by simpa using hr) (fun i hi => by
      have := h (i + 1) (by omega)
      simp only [List.getElem?_cons_succ] at this
      rw [this, List.drop_drop, show (i + 1) * k = k + i * k by rw [Nat.add_mul]; omega])
    rw [List.flatten_cons, h0, ← ih, List.take_append_drop]
end

theorem gShapes : Tryd.prog.globalNamed "ledger/desk.shapes" = some 2 := by kernel_rfl
theorem gShapesType : (Tryd.prog.globals[2]?).map (·.type) = some 46 := by kernel_rfl
theorem cellsShape : Tryd.prog.cellsOf 45 = 6 := by kernel_rfl
theorem cellsShapes : Tryd.prog.cellsOf 46 = 60 := by kernel_rfl
theorem cellsBool : Tryd.prog.cellsOf 4 = 1 := by kernel_rfl

/-- The shapes, as bools. -/
def shapeRows : List (List Bool) := [[false, false, false, false, false, false], [true, false, false, false, false, false], [false, true, false, true, false, false], [false, false, false, true, false, false], [false, true, false, true, false, false], [false, true, true, true, false, false], [false, true, true, true, false, true], [false, false, false, true, true, false], [false, false, false, false, false, false], [false, false, false, false, false, false]]
theorem laid_rows {H : Type} : Rows.laid_ledger_desk_shapes (H := H) = .agg (shapeRows.map fun r => .agg (r.map fun z => .lit (.bool z))) := rfl

/-- What the row's list gives: the shapes' cells. -/
theorem shapes_laid {W : World} (h : laidMetH Tryd.prog [("ledger/desk.shapes", Rows.laid_ledger_desk_shapes)] W) : 2 < W.heap.size ∧ Cells W 2 0 shapeCells := by
  have h' : laidMet Tryd.prog [("ledger/desk.shapes", Rows.laid_ledger_desk_shapes)] W := h
  obtain ⟨ps, ⟨g', t', cs, fuel, p, q, hg', ht', hvar, hd, _, _⟩, _⟩ := h'
  obtain rfl := Option.some.inj (gShapes.symm.trans hg')
  obtain rfl := Option.some.inj (gShapesType.symm.trans ht')
  obtain ⟨xs, m, rfl, hx, hl, hxl, hall⟩ := DataW.trod_array Tryd.underlying46 hd
  rw [laid_rows] at hx
  have hxs : xs.map (·.1) = shapeRows.map fun r => (DataW.agg (r.map fun z => .lit (.bool z)) : DataW Unit) := by
    have := congrArg Prod.fst hx
    simpa using this.symm
  rw [cellsShape] at hall
  rw [cellsShapes] at hl
  have hcs : cs.toList = (shapeRows.map fun r => r.map fun z => Value.bool z).flatten := by
    refine flat_of_rows (k := 6) (n := 10) hl rfl (fun i hi => ?_)
    have h1 := hall i hi
    obtain ⟨b, hb⟩ : ∃ b, xs[i]? = some b := ⟨xs[i]'(by omega), List.getElem?_eq_getElem (by omega)⟩
    rw [hb] at h1
    have h3 : (xs.map (·.1))[i]? = some b.1 := by simp [hb]
    rw [hxs, List.getElem?_map, Option.map_eq_some_iff] at h3
    obtain ⟨r, hr, hrb⟩ := h3
    have h4 : DataW.trod (fun _ => ()) Tryd.prog W 0 (fun _ => true) false m 45 ((cs.toList.drop (i * 6)).take 6) = some (.agg (r.map fun z => .lit (.bool z)), b.2) := by
      rw [h1, hrb]
    have h5 := bools_of_struct Tryd.underlying45 (fun j f hj => by
      match j with
      | 0 | 1 | 2 | 3 | 4 | 5 => cases hj; exact ⟨Tryd.underlying4, rfl, cellsBool⟩
      | j + 6 => simp at hj) (by rw [cellsShape]; rfl) h4
    rw [List.getElem?_map, hr, h5]
    rfl
  have hcell : Cells W 2 0 shapeCells := by
    intro j v hj
    rw [World.var?_cell gShapes hvar, Nat.zero_add, ← Array.getElem?_toList, hcs]
    exact hj
  refine ⟨?_, hcell⟩
  have h0 := hcell 0 (.bool false) rfl
  apply Classical.byContradiction
  intro hn
  have : W.heap[2]? = none := by simp; omega
  simp [World.cell?, this] at h0
end Go.Proofs.YtmedbedpgbbdgaaDoor
