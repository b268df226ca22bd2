/- RemoteBegins: two equal digests are equal; both sides are alike. -/
import Derived.Test.YtmedbedpgbbdgaaRemote4
import Derived.DeepKeys
namespace Go.Proofs.Ytmedbedpgbbdgaa
open Go.RowKit
set_option linter.unusedVariables false

theorem mapM_all {α β : Type} {f : α → Option β} : ∀ {l : List α}, (∀ a ∈ l, ∃ b, f a = some b) → ∃ r, l.mapM f = some r
  | [], _ => ⟨[], rfl⟩
  | a :: l, h => by
    obtain ⟨b, hb⟩ := h a (by simp)
    obtain ⟨r, hr⟩ := mapM_all (l := l) (fun x hx => h x (by simp [hx]))
    exact ⟨b :: r, by simp [List.mapM_cons, hb, hr]⟩

theorem cells24 : Try.prog.cellsOf 24 = 32 := by kernel_rfl
theorem cells5 : Try.prog.cellsOf 5 = 1 := by kernel_rfl

theorem dig_lits {bs : List UInt8} (h : bs.length = 32) : ∃ L, Try.prog.keyLits 3 24 (bv bs) = some L := by
  obtain ⟨r, hr⟩ := mapM_all (f := fun i => Try.prog.keyLits 2 5 (((bv bs).drop (i * Try.prog.cellsOf 5)).take (Try.prog.cellsOf 5))) (l := List.range 32) (fun i hi => by
    have hi' : i < bs.length := by rw [h]; exact List.mem_range.1 hi
    refine ⟨[.int .u8 (bs[i].toNat : Nat)], ?_⟩
    have e : ((bv bs).drop (i * 1)).take 1 = [.int .u8 (bs[i].toNat : Nat)] := by
      rw [Nat.mul_one, bv_drop, bv_take, List.take_one, List.head?_drop, List.getElem?_eq_getElem hi']
      rfl
    have hw : (Lit.int .u8 ((bs[i].toNat : Nat) : Int)).wf = true := by
      have := bs[i].toNat_lt
      have h1 : IntKind.u8.min = 0 := rfl
      have h2 : IntKind.u8.max = 255 := rfl
      simp only [Lit.wf, Bool.and_eq_true, decide_eq_true_eq]
      omega
    rw [cells5, e]
    simp [Program.keyLits, Try.underlying5, hw])
  refine ⟨r.flatten, ?_⟩
  have hl : (bv bs).length = Try.prog.cellsOf 24 := by rw [bv_length, h, cells24]
  unfold Program.keyLits
  simp only [Try.underlying24]
  rw [if_pos hl, hr]
  rfl

theorem dig_eq {bs : List UInt8} (h : bs.length = 32) (w : World) : (binOp .eql 24 (.agg (bv bs).toArray) (.agg (bv bs).toArray)).run Try.prog w = .ok (.bool true) w := by
  have fx : (Value.agg (bv bs).toArray).formed Try.prog 24 = true := by simp [Value.formed, Try.underlying24, bv_length, h, cells24]
  obtain ⟨L, hL⟩ := dig_lits h
  have hx : Try.prog.keyLits 3 24 (Value.agg (bv bs).toArray).cells.toList = some L := hL
  obtain ⟨r, hr, hiff⟩ := run_equalIn_deep (P := Try.prog) 9997 3 24 (by kernel_rfl) w 3 3 (.agg (bv bs).toArray) (.agg (bv bs).toArray) _ _ fx fx hx hx
  obtain rfl : r = true := hiff.2 rfl
  rw [run_eql_struct]
  have : (9997 + 3 : Nat) = 10000 := rfl
  rw [this] at hr
  rw [hr]
  rfl

section
variable {P : Program} {w : World} {ops : Array Oper} {rest : List Oper} {o : Oper} {a : Act} {Q : Act → Prop}
theorem still_val (hw : Region.wanted o (yielded ops a.tmps) = true) {v : Value} (hr : (execOp a.eval o).run P w = .ok (.value v) w)
    (h : wpStill P ops w Q rest (a.put o.dst v)) : wpStill P ops w Q (o :: rest) a := by
  unfold wpStill
  rw [if_pos hw]
  unfold Oper.still
  rw [hr]
  exact ⟨rfl, h⟩
theorem still_eql (hw : Region.wanted o (yielded ops a.tmps) = true) (T u : TypeId) (x y : Operand) (ho : o.op = .binOp .eql T x y u) {vx vy v : Value} (hx : a.eval x = vx) (hy : a.eval y = vy) (hq : (eqGuard .eql T x y vx vy).run P w = .ok () w) (hr : (binOp .eql T vx vy).run P w = .ok v w)
    (h : wpStill P ops w Q rest (a.put o.dst v)) : wpStill P ops w Q (o :: rest) a := by
  refine still_val hw (v := v) ?_ h
  unfold execOp
  simp only [ho, hx, hy]
  simp [hq, hr]
end

set_option maxHeartbeats 1000000 in
theorem alike_true (n v : Int) (bs : List UInt8) (hl : bs.length = 32) (b c : Nat) (w : World) (h : w.heap[b]? = some (.cells (.int .i64 v :: (bv bs ++ [.int .i64 n])).toArray 39 (0, 0)))
    (h' : w.heap[c]? = some (.cells (.int .i64 n :: .int .i64 v :: bv bs).toArray 43 (0, 0))) :
    Calls Try.prog 10 #[.pointer (some ⟨b, 0, none⟩), .pointer (some ⟨c, 0, none⟩)] w fun e w' => e = .returned (.bool true) ∧ Below w.heap.size w w' := by
  have HC := Lib.hid h'
  have hc : c < w.heap.size := (Array.getElem?_eq_some_iff.1 h').1
  clear h'
  have hsz : (bv bs).length = 32 := by simp [bv, hl]
  go_enter Try.func10, Try.ntmps10
  go_wp2_with (go_at_call 9; with_reducible refine stK ?_)
  refine ⟨(head_spec n v bs hl b w h).mono ?_⟩
  rintro e W1 ⟨rfl, b1⟩
  have s1 := b1.size
  go_wp2_with (with_reducible refine stAl 24 ?_)
  refine ⟨al rfl 24 rfl (z := .agg (Array.replicate 32 (.int .u8 0))) (by kernel_rfl) ?_⟩
  intro W2 z2 h2 b2
  simp only [Value.cells] at h2
  go_wp2_with (with_reducible refine stW 24 ?_)
  refine ⟨stRow rfl 24 (.tmp 6) (.tmp 13) rfl rfl h2 (c' := (bv bs).toArray) rfl (size24 hl) (by simp [hsz]) (by simpa using bv_one bs) ?_⟩
  clear h2
  intro W3 z3 h3 g3
  have b3 : Below W1.heap.size W1 W3 := b2.grown g3 (by omega) (by simp)
  have bb := b1.trans (b3.mono (by omega))
  have HC3 := (bb.block c hc).trans HC.out
  have cA := root_cells h3
  have c1 : W3.cell? ⟨c, 1, none⟩ = some (.int .i64 v) := by rw [(live HC3).1]; rfl
  have cR : Cells W3 c 2 (bv bs) := by
    intro j u hj
    rw [(live HC3).1, Nat.add_comm]
    simpa using hj
  clear h3 HC3 z3 g3 b3
  go_wp2_with fail
  refine wp_region_still_lit (by kernel_rfl) (by kernel_rfl) ?_
  still_step
  still_step
  still_step
  still_step
  still_step
  still_step
  still_step
  refine still_row rfl 24 (.tmp 6) rfl rfl (bv bs) (fun j u hj => cA j u hj) Try.underlying24 rfl (size24 hl) ?_
  still_step
  still_step
  still_step
  refine still_row rfl 24 (.tmp 24) rfl rfl (bv bs) (fun j u hj => cR j u hj) Try.underlying24 rfl (size24 hl) ?_
  refine still_eql rfl 24 24 (.tmp 21) (.tmp 25) rfl rfl rfl (by simp [eqGuard, go_sem]) (dig_eq hl _) ?_
  still_step
  still_step
  refine wpStill_nil ?_
  have b4 : Below w.heap.size w W3.drew := bb.drew
  change Exit.then _ _ _ _ W3.drew
  generalize W3.drew = W4 at b4 ⊢
  simp only [Exit.then]
  go_wp2
  go_ret
  exact ⟨rfl, b4⟩
end Go.Proofs.Ytmedbedpgbbdgaa
