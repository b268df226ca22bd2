/- RemoteBegins: the head, and whether both sides are alike. -/
import Derived.Test.YtmedbedpgbbdgaaRemote3
import Derived.StillTailTactics
namespace Go.Proofs.Ytmedbedpgbbdgaa
open Go.RowKit
set_option linter.unusedVariables false

theorem head_cells {W : World} {b : Nat} {v n : Int} {bs : List UInt8} (h : W.heap[b]? = some (.cells (.int .i64 v :: (bv bs ++ [.int .i64 n])).toArray 39 (0, 0))) : W.cell? ⟨b, 0, none⟩ = some (.int .i64 v) ∧ Cells W b 1 (bv bs) := by
  refine ⟨by rw [(live h).1]; rfl, fun j u hj => ?_⟩
  rw [(live h).1, Nat.add_comm]
  have : j < (bv bs).length := (List.getElem?_eq_some_iff.1 hj).1
  simp [List.getElem?_append_left this, hj]

section
variable {P : Program} {w : World} {ops : Array Oper} {rest : List Oper} {o : Oper} {a : Act} {Q : Act → Prop}
theorem still_row (hw : Region.wanted o (yielded ops a.tmps) = true) (T : TypeId) (x : Operand) (ho : o.op = .load T x) {b off : Nat} (hx : a.eval x = .pointer (some ⟨b, off, none⟩)) (xs : List Value) (hc : Cells w b off xs)
    {d : TypeDesc} (hu : P.underlying T = some d) (hd : d.isRow = true) (hi : (P.info? T).map (·.size) = some xs.length)
    (h : wpStill P ops w Q rest (a.put o.dst (.agg xs.toArray))) : wpStill P ops w Q (o :: rest) a := by
  have hr : (execOp a.eval o).run P w = .ok (.value (.agg xs.toArray)) w := by
    unfold execOp
    simp only [ho, hx]
    have hr := run_loadAt_mid (P := P) w b off T xs d hc hu hd hi
    simp [hr]
  unfold wpStill
  rw [if_pos hw]
  unfold Oper.still
  rw [hr]
  exact ⟨rfl, h⟩
end

set_option maxHeartbeats 1000000 in
theorem head_spec (n v : Int) (bs : List UInt8) (hl : bs.length = 32) (b : Nat) (w : World) (h : w.heap[b]? = some (.cells (.int .i64 v :: (bv bs ++ [.int .i64 n])).toArray 39 (0, 0))) :
    Calls Try.prog 9 #[.pointer (some ⟨b, 0, none⟩)] w fun e w' => e = .returned (.tuple #[.int .i64 v, .agg (bv bs).toArray]) ∧ Below w.heap.size w w' := by
  have HH := Lib.hid h
  have LL := Lib.hid hl
  have hb : b < w.heap.size := (Array.getElem?_eq_some_iff.1 h).1
  clear h hl
  go_enter Try.func9, Try.ntmps9
  go_wp2_with (with_reducible refine stAl 24 ?_)
  refine ⟨al rfl 24 rfl (z := .agg (Array.replicate 32 (.int .u8 0))) (by kernel_rfl) ?_⟩
  intro W1 z1 h1 b1
  simp only [Value.cells] at h1
  obtain ⟨c0, cR⟩ := head_cells ((b1.block b hb).trans HH.out)
  go_wp2_with fail
  refine wp_region_still_tail 9 (by kernel_rfl) (by kernel_rfl) ?_
  simp only [List.take_succ_cons, List.take_zero, List.drop_succ_cons, List.drop_zero]
  still_step
  still_step
  still_step
  still_step
  still_step
  still_step
  still_step
  refine still_row rfl 24 (.tmp 10) rfl rfl (bv bs) (fun j u hj => cR j u hj) Try.underlying24 rfl (size24 LL.out) ?_
  still_step
  refine wpStill_nil ?_
  have hsz : (bv bs).length = 32 := by simp [bv, LL.out]
  have b2 : Below w.heap.size w W1.drew := b1.drew
  change wpList _ _ _ _ _ W1.drew
  have h2 : W1.drew.heap[w.heap.size]? = _ := h1
  generalize W1.drew = W2 at h2 b2 ⊢
  clear h1 c0 cR b1 z1
  go_wp2_with (with_reducible refine stW 24 ?_)
  refine ⟨stRow rfl 24 (.tmp 3) (.tmp 11) rfl rfl h2 (c' := (bv bs).toArray) rfl (size24 LL.out) (by simp [hsz]) (by simpa using bv_one bs) ?_⟩
  clear h2
  intro W3 z3 h3 g3
  have b3 : Below w.heap.size w W3 := b2.grown g3 b2.size (by simp)
  go_wp2
  have hv := run_loadVar_mid (P := Try.prog) W3 w.heap.size 0 24 (bv bs) _ (fun j u hj => by rw [(live h3).1]; simpa using hj) Try.underlying24 rfl (size24 LL.out)
  clear h3
  exact bodyPost_ret (v := .tuple #[.int .i64 v, .agg (bv bs).toArray]) (by simp [results, Try.results9, Act.put, asAddr, Array.mapM_eq_mapM_toList, hv]) rfl ⟨rfl, b3⟩
end Go.Proofs.Ytmedbedpgbbdgaa
