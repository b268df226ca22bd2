/- Walks: find. -/
import Derived.Test.YtjnfijnfjblbnaaGreatDoorFind2
namespace Go.Proofs.YtjnfijnfjblbnaaGreatDoor
open Go.RowKit Go.Maps
set_option linter.unusedVariables false

def TabNew (w w' : World) (tb toff n : Nat) (cs : Array Value) (T : TypeId) : Prop :=
  ∃ cs', w.grownBy w' (some tb) ∧ w'.heap[tb]? = some (.cells cs' T (0, 0)) ∧ TabIs w' tb toff n cs' ∧ cs'.size = cs.size ∧ ∀ j, j < toff ∨ toff + 3 < j → cs'[j]? = cs[j]?

theorem TabIs.kept {w W : World} {tb toff n : Nat} {cs : Array Value} (h : TabIs w tb toff n cs) (hb : ∀ k, k < w.heap.size → (∃ es c, w.heap[k]? = some (.map es c)) → W.heap[k]? = w.heap[k]?) : TabIs W tb toff n cs := by
  refine ⟨h.1, ?_⟩
  rcases h.2 with h1 | ⟨mb, h1, h2, h3⟩
  · exact .inl h1
  · have hl := h3.lt
    have h3' := h3
    obtain ⟨es, c, q, _⟩ := h3'
    exact .inr ⟨mb, h1, h2, own_kept h3 (hb mb hl ⟨es, c, q⟩)⟩
theorem TabIs.below {w W : World} {tb toff n : Nat} {cs : Array Value} (h : TabIs w tb toff n cs) (b : Below w.heap.size w W) : TabIs W tb toff n cs := h.kept fun k hk _ => b.block k hk
theorem TabNew.size {w w' : World} {tb toff n : Nat} {cs : Array Value} {T : TypeId} (h : TabNew w w' tb toff n cs T) : w.heap.size ≤ w'.heap.size := by
  obtain ⟨cs', g, _⟩ := h
  exact g.size
theorem TabNew.below {w w' W : World} {tb toff n : Nat} {cs : Array Value} {T : TypeId} (h : TabNew w w' tb toff n cs T) (hl : tb < w.heap.size) (b : Below w'.heap.size w' W) : TabNew w W tb toff n cs T := by
  obtain ⟨cs', g, h1, h2, h3⟩ := h
  exact ⟨cs', grownBy_below g b, (b.block tb (by have := g.size; omega)).trans h1, h2.below b, h3⟩
/-- A row of cells that is newer is written. -/
theorem TabNew.other {w w' W : World} {tb toff n k : Nat} {cs : Array Value} {T : TypeId} (h : TabNew w w' tb toff n cs T) (g : w'.grownBy W (some k)) (hk : w.heap.size ≤ k) (hne : tb ≠ k) (hrow : ∃ c t, w'.heap[k]? = some (.cells c t (0, 0))) : TabNew w W tb toff n cs T := by
  obtain ⟨cs', g', h1, h2, h3⟩ := h
  obtain ⟨c, t, hr⟩ := hrow
  refine ⟨cs', grownBy_new g' g hk, keep g h1 hne, h2.kept fun j hj ⟨es, cl, hm⟩ => g.block j hj ?_, h3⟩
  intro e
  cases e
  rw [hr] at hm
  cases hm

/-- What a table answers. -/
def foundV (n d : Nat) : Value := match Crc.last (Crc.pairs n) d with | some j => .tuple #[.int .i64 (j : Int), .bool true] | none => .tuple #[.int .i64 0, .bool false]

theorem found_of {n d mb : Nat} {c : Int} (hat : (Crc.putAll (Crc.pairs n) (.map [] : DataW Unit)).atKey (.int .u32 (d : Int)) (.lit (.int .i64 0)) = .lit (.int .i64 c)) :
    Value.tuple #[.int .i64 c, .bool (Maps.has (Crc.putAll (Crc.pairs n) (.map [] : DataW Unit)) (.int .u32 (d : Int)))] = foundV n d := by
  obtain ⟨h1, h2⟩ := Crc.look (H := Unit) (Crc.pairs n) d
  rw [h2] at hat
  rw [h1]
  unfold foundV
  cases hl : Crc.last (Crc.pairs n) d with
  | none =>
    rw [hl] at hat
    simp only at hat
    injection hat with e
    injection e with e1 e2
    rw [e2]
    rfl
  | some j =>
    rw [hl] at hat
    simp only at hat
    injection hat with e
    injection e with e1 e2
    rw [← e2]
    rfl

set_option maxRecDepth 100000 in
set_option maxHeartbeats 1600000 in
theorem find_spec (tb toff n d : Nat) (cs : Array Value) (T : TypeId) (w : World) (hc : w.heap[tb]? = some (.cells cs T (0, 0))) (ht : TabIs w tb toff n cs) (h1 : 1 ≤ n) (h2 : n ≤ 4096) (hd : d < 4294967296) :
    Calls Tryz.prog 30 #[.pointer (some ⟨tb, toff, none⟩), .int .i64 n, .int .u32 d] w fun e w' => e = .returned (foundV n d) ∧ TabNew w w' tb toff n cs T := by
  have lb : tb < w.heap.size := (Array.getElem?_eq_some_iff.1 hc).1
  have hmf : ∀ (fn : Fn) (first cap : Array Value) (w : World), (Instr.makeFunc fn first cap).run Tryz.prog w = .ok (.func fn first cap) w := fun _ _ _ _ => rfl
  have HC := Lib.hid hc
  clear hc
  go_enter Tryz.func30, Tryz.ntmps30
  go_wp2_with (with_reducible refine stB 83 ?_)
  refine ⟨bx rfl 83 (.tmp 0) rfl rfl ?_⟩
  intro W1 z1 p1 b1
  simp only [Value.cells] at p1
  have P1 := Lib.hid p1
  have y1 : w.heap.size + 1 ≤ W1.heap.size := by omega
  clear p1 z1
  go_wp2_with (with_reducible refine stB 3 ?_)
  refine ⟨bx rfl 3 (.tmp 1) rfl rfl ?_⟩
  intro W2 z2 p2 b2
  simp only [Value.cells] at p2
  have P2 := Lib.hid p2
  have Q2 : Hid (W2.heap[w.heap.size]? = some (.cells #[.pointer (some ⟨tb, toff, none⟩)] 83 (0, 0))) := Lib.hid ((b2.block _ (by omega)).trans P1.out)
  have C2 : Hid (W2.heap[tb]? = some (.cells cs T (0, 0))) := Lib.hid ((b2.block _ (by omega)).trans ((b1.block _ (by omega)).trans HC.out))
  have g2 : w.grownBy W2 (some tb) := grownBy_below (grownBy_below (grownBy_refl w (some tb)) b1) b2
  have y2 : W1.heap.size + 1 ≤ W2.heap.size := by omega
  clear p2 z2
  have ct : W2.cell? ⟨w.heap.size, 0, none⟩ = some (.pointer (some ⟨tb, toff, none⟩)) := cell_of_block (j := 0) Q2.out rfl
  obtain ⟨hs, hcase⟩ := ht
  -- what the call of Do leaves
  have D : Calls Tryz.prog 41 #[.pointer (some ⟨tb, toff, none⟩), .func (.func 42) #[] #[.pointer (some ⟨W1.heap.size, 0, none⟩), .pointer (some ⟨w.heap.size, 0, none⟩)]] W2 fun e w' => ∃ mb cs', e = .returned (.tuple #[]) ∧ W2.grownBy w' (some tb) ∧
      w'.heap[tb]? = some (.cells cs' T (0, 0)) ∧ cs'[toff]? = some (.int .u32 1) ∧ cs'[toff + 3]? = some (.map (some mb)) ∧ cs'.size = cs.size ∧ (∀ j, j < toff ∨ toff + 3 < j → cs'[j]? = cs[j]?) ∧ w'.ownsMap Tryz.prog 44 (plainElem (H := Unit) Tryz.prog 3) mb (8 * n + 32) (Crc.putAll (Crc.pairs n) (.map [])) := by
    rcases hcase with ⟨k0, k1⟩ | ⟨mb, k0, k3, m⟩
    · refine (do_first W1.heap.size w.heap.size tb toff n cs T W2 P2.out Q2.out C2.out hs (by omega) (by omega) h1 h2 k0 k1).mono ?_
      rintro e w' ⟨mb, rfl, g, _, q, m⟩
      exact ⟨mb, doneCs cs toff mb, rfl, g, q, doneCs_0 _ _ _ hs, doneCs_3 _ _ _ hs, doneCs_size _ _ _, fun j hj => doneCs_other _ _ _ _ (by omega) (by omega) (by omega), m⟩
    · refine (do_done tb toff _ W2 (by rw [cell_of_row _ _ _ _ _ _ C2.out]; exact k0)).mono ?_
      rintro e w' ⟨rfl, rfl⟩
      have lm := m.lt
      exact ⟨mb, cs, rfl, grownBy_refl _ _, C2.out, k0, k3, rfl, fun _ _ => rfl, own_kept m ((b2.block _ (by omega)).trans (b1.block _ lm))⟩
  clear hcase
  go_wp2_with (first | (go_at_call 41; with_reducible refine stK ?_))
  refine ⟨D.mono ?_⟩
  rintro e W3 ⟨mb, cs', rfl, g3, q3, k0, k3, hsz, hoth, m3⟩
  clear ct
  have ct : W3.cell? ⟨w.heap.size, 0, none⟩ = some (.pointer (some ⟨tb, toff, none⟩)) := cell_of_block (j := 0) (keep g3 Q2.out (by omega)) rfl
  have cb : W3.cell? ⟨tb, toff + 3, none⟩ = some (.map (some mb)) := by rw [cell_of_row _ _ _ _ _ _ q3]; exact k3
  have T3 : TabNew w W3 tb toff n cs T := ⟨cs', grownBy_trans g2 g3, q3, ⟨by omega, .inr ⟨mb, k0, k3, m3⟩⟩, hsz, hoth⟩
  clear q3 k0 k3 hsz hoth g3 g2 C2 Q2 P2 P1
  go_wp2_with (first | go_skip | (with_reducible refine stLk ?_))
  refine ⟨wpList_lookup_own_ok_int (H := Unit) W3 rfl (.tmp 19) (.tmp 20) 53 rfl 44 3 .i64 law32 Tryz.underlying53 Tryz.underlying3 (zeroI _) mb (8 * n + 32) _ rfl m3 (.int .u32 (d : Int)) (.int .u32 (d : Int)) rfl (keyOf_int_mk Tryz.underlying44 (wf32 hd)) ?_⟩
  intro c hat hwc
  have F := found_of (mb := mb) hat
  clear hat
  generalize Maps.has (Crc.putAll (Crc.pairs n) (.map [] : DataW Unit)) (.int .u32 (d : Int)) = bb at F ⊢
  have HF := Lib.hid F
  clear F
  go_wp2
  go_ret2
  exact ⟨congrArg Ending.returned HF.out, T3⟩
end Go.Proofs.YtjnfijnfjblbnaaGreatDoor
