/- A request that a row hands in: its numbers, its three slices, how long they may be. -/
import Derived.Test.YtmedbedpgbbdgaaDoorOpen
namespace Go.Proofs.YtmedbedpgbbdgaaDoor
open Go.ChangeShapes Go.WideShapes Go.ChangeAt Go.RowKit
set_option linter.unusedVariables false

theorem seven {cs : Array Value} (h : cs.size = 7) : ∃ c0 c1 c2 c3 c4 c5 c6, cs = #[c0, c1, c2, c3, c4, c5, c6] := by
  rcases cs with ⟨l⟩
  rcases l with _ | ⟨c0, _ | ⟨c1, _ | ⟨c2, _ | ⟨c3, _ | ⟨c4, _ | ⟨c5, _ | ⟨c6, _ | ⟨c7, l⟩⟩⟩⟩⟩⟩⟩⟩
  all_goals first | exact ⟨_, _, _, _, _, _, _, rfl⟩ | (simp at h)

theorem cellsReq : Tryd.prog.cellsOf 24 = 7 := by kernel_rfl
theorem cellsInt : Tryd.prog.cellsOf 3 = 1 := by kernel_rfl
theorem cellsBytes : Tryd.prog.cellsOf 22 = 1 := by kernel_rfl
theorem cellsByte : Tryd.prog.cellsOf 5 = 1 := by kernel_rfl
theorem bytesByte : Tryd.prog.bytesOf 5 = 1 := by kernel_rfl
theorem reqTypes : Tryd.prog.cellTypes Tryd.prog.depth 24 = some [3, 3, 3, 3, 22, 22, 22] := by kernel_rfl

theorem open_request {H : Type} {enc : TypeId × Value → H} {W : World} {base : Nat} {v0 : Value} {d0 : DataW H} {p0 : List MemPlace} (hv : Value.okWide Tryd.prog W .any base 24 v0)
    (h0 : DataW.Trod enc Tryd.prog W 0 (fun _ => true) true 24 v0 d0 p0) (hsz : (DataW.weightsEach Tryd.prog [24] [d0]).all (· ≤ reachBytes) = true) :
    ∃ op ver oth lim pk nk ck ph nh ch pb nb cb key high batch, v0 = .agg #[.int .i64 op, .int .i64 ver, .int .i64 oth, .int .i64 lim, .slice pk nk ck, .slice ph nh ch, .slice pb nb cb] ∧
      (View W (.slice pk nk ck) nk 1 (bv key) ∧ key.length = nk ∧ nk + 2 ≤ 140737488355328) ∧ (View W (.slice ph nh ch) nh 1 (bv high) ∧ high.length = nh ∧ nh + 2 ≤ 140737488355328) ∧ (View W (.slice pb nb cb) nb 1 (bv batch) ∧ batch.length = nb ∧ nb + 2 ≤ 140737488355328) := by
  simp only [Value.okWide, Tryd.underlying24] at hv
  obtain ⟨cs, rfl, hcs, ts, hts, _, hall⟩ := hv
  rw [cellsReq] at hcs
  obtain rfl := Option.some.inj (reqTypes.symm.trans hts)
  obtain ⟨c0, c1, c2, c3, c4, c5, c6, rfl⟩ := seven hcs
  obtain ⟨fuel, hf⟩ := h0
  obtain ⟨xs, n, rfl, hx, _, hxl, hfs⟩ := DataW.trod_struct Tryd.underlying24 hf
  simp only [Prod.mk.injEq] at hx
  obtain ⟨rfl, rfl⟩ := hx
  have get : ∀ i, i < 7 → ∃ x, xs[i]? = some x := fun i hi => ⟨xs[i]'(by rw [hxl]; exact hi), List.getElem?_eq_getElem _⟩
  have big : ∀ (i : Nat) (x : DataW H × List MemPlace) (m : Nat), xs[i]? = some x → ([3, 3, 3, 3, 22, 22, 22] : List TypeId)[i]? = some 22 → ((x.1 = .nil ∧ m = 0) ∨ ∃ es rs, x.1 = .slice es rs ∧ es.length = m) → m + 2 ≤ 140737488355328 := by
    intro i x m hxi hti hm
    rcases hm with ⟨_, h⟩ | ⟨es, rs, h, hes⟩
    · omega
    · have h1 : (es.length + rs.length) * Tryd.prog.bytesOf 5 ∈ (DataW.agg (xs.map (·.1)) : DataW H).weights Tryd.prog 24 := by
        simp only [DataW.weights, Tryd.underlying24]
        exact DataW.weights_mem_each (j := i) (t := 22) (d := .slice es rs) hti (by rw [List.getElem?_map, hxi, ← h]; rfl) _ (by simp [DataW.weights, Tryd.underlying22])
      have h2 := List.all_eq_true.1 hsz _ (DataW.weights_mem_each (j := 0) (t := 24) rfl rfl _ h1)
      rw [bytesByte] at h2
      simp only [hes, reachBytes, decide_eq_true_eq] at h2
      omega
  have num : ∀ (i off : Nat) (f : Field) (c : Value) (fs : Array Field), Tryd.prog.underlying 24 = some (.struct fs) → fs[i]? = some f → f.type = 3 → i < 7 → ((Value.agg #[c0, c1, c2, c3, c4, c5, c6]).cells.toList.drop f.offset).take 1 = [c] → ∃ z, c = .int .i64 z := by
    intro i off f c fs hu hfi ht hi hc
    obtain rfl : _ = fs := by have := Tryd.underlying24.symm.trans hu; simpa using this
    obtain ⟨x, hx⟩ := get i hi
    have := hfs i f hfi
    rw [ht, cellsInt, hc, hx] at this
    obtain ⟨z, hz, _⟩ := DataW.trod_int Tryd.underlying3 this
    simp only [List.cons.injEq, and_true] at hz
    exact ⟨z, hz⟩
  have row : ∀ (i : Nat) (f : Field) (c : Value) (fs : Array Field), Tryd.prog.underlying 24 = some (.struct fs) → fs[i]? = some f → f.type = 22 → i < 7 → ((Value.agg #[c0, c1, c2, c3, c4, c5, c6]).cells.toList.drop f.offset).take 1 = [c] → (#[c0, c1, c2, c3, c4, c5, c6] : Array Value)[i]? = some c → ([3, 3, 3, 3, 22, 22, 22] : List TypeId)[i]? = some 22 →
      ∃ a m k l, c = .slice a m k ∧ View W (.slice a m k) m 1 (bv l) ∧ l.length = m ∧ m + 2 ≤ 140737488355328 := by
    intro i f c fs hu hfi ht hi hc hci hti
    obtain rfl : _ = fs := by have := Tryd.underlying24.symm.trans hu; simpa using this
    obtain ⟨x, hx⟩ := get i hi
    have h1 := hfs i f hfi
    rw [ht, cellsBytes, hc, hx] at h1
    obtain ⟨u, hu1, hu2⟩ := hall i c hci
    rw [show i % ([3, 3, 3, 3, 22, 22, 22] : List TypeId).length = i from Nat.mod_eq_of_lt hi] at hu1
    obtain rfl := Option.some.inj (hti.symm.trans hu1)
    obtain ⟨a, m, k, l, he, hview, hl, _, hd⟩ := opened Tryd.underlying22 Tryd.underlying5 cellsByte hu2 ⟨n, h1⟩
    exact ⟨a, m, k, l, he, hview, hl, big i x m hx hti hd⟩
  obtain ⟨op, rfl⟩ := num 0 0 _ c0 _ Tryd.underlying24 rfl rfl (by decide) rfl
  obtain ⟨ver, rfl⟩ := num 1 0 _ c1 _ Tryd.underlying24 rfl rfl (by decide) rfl
  obtain ⟨oth, rfl⟩ := num 2 0 _ c2 _ Tryd.underlying24 rfl rfl (by decide) rfl
  obtain ⟨lim, rfl⟩ := num 3 0 _ c3 _ Tryd.underlying24 rfl rfl (by decide) rfl
  obtain ⟨pk, nk, ck, key, rfl, a1, a2, a3⟩ := row 4 _ c4 _ Tryd.underlying24 rfl rfl (by decide) rfl rfl rfl
  obtain ⟨ph, nh, ch, high, rfl, b1, b2, b3⟩ := row 5 _ c5 _ Tryd.underlying24 rfl rfl (by decide) rfl rfl rfl
  obtain ⟨pb, nb, cb, batch, rfl, d1, d2, d3⟩ := row 6 _ c6 _ Tryd.underlying24 rfl rfl (by decide) rfl rfl rfl
  exact ⟨op, ver, oth, lim, pk, nk, ck, ph, nh, ch, pb, nb, cb, key, high, batch, rfl, ⟨a1, a2, a3⟩, ⟨b1, b2, b3⟩, ⟨d1, d2, d3⟩⟩
end Go.Proofs.YtmedbedpgbbdgaaDoor
