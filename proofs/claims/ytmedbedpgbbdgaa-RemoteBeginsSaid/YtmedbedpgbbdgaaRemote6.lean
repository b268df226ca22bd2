/- RemoteBegins: the walk of the statement's function. -/
import Derived.Test.YtmedbedpgbbdgaaRemote5
namespace Go.Proofs.Ytmedbedpgbbdgaa
open Go.RowKit
set_option linter.unusedVariables false

def sevenBs : List UInt8 := [7, 0, 0, 0, 0, 0, 0, 0, 0, 0, 0, 0, 0, 0, 0, 0, 0, 0, 0, 0, 0, 0, 0, 0, 0, 0, 0, 0, 0, 0, 0, 0]
def sevenCells : Array Value := #[.int .u8 7, .int .u8 0, .int .u8 0, .int .u8 0, .int .u8 0, .int .u8 0, .int .u8 0, .int .u8 0, .int .u8 0, .int .u8 0, .int .u8 0, .int .u8 0, .int .u8 0, .int .u8 0, .int .u8 0, .int .u8 0, .int .u8 0, .int .u8 0, .int .u8 0, .int .u8 0, .int .u8 0, .int .u8 0, .int .u8 0, .int .u8 0, .int .u8 0, .int .u8 0, .int .u8 0, .int .u8 0, .int .u8 0, .int .u8 0, .int .u8 0, .int .u8 0]
theorem seven_cells : (bv sevenBs).toArray = sevenCells := rfl
theorem clear_seven : clear0 1 sevenBs := by
  intro j h1 h2
  have : ∀ j : Fin 32, 1 ≤ j.val → sevenBs.getD j.val 0 = 0 := by decide
  exact this ⟨j, h2⟩ h1
theorem built24 : Try.prog.built 24 [(0, .int .u8 7)] = some sevenCells := by kernel_rfl

section
variable {P : Program} {w : World} {ops : Array Oper} {rest : List Oper} {o : Oper} {a : Act} {Q : Exit → Act → World → Prop} {d : Option Tmp} {ty : TypeId} {pos : String} {af : Array Edge}
theorem stBlg (t : TypeId) {ps : Array (Nat × Operand)} {g : Option (Nat × Bool)} (s : Stop (wpList P ops Q (⟨d, .build t ps, ty, pos, af, g⟩ :: rest) a w)) : wpList P ops Q (⟨d, .build t ps, ty, pos, af, g⟩ :: rest) a w := s.out
theorem eqlW (hw : Region.wanted o (yielded ops a.tmps) = true) (T u : TypeId) (x y : Operand) (ho : o.op = .binOp .eql T x y u) {vx vy v : Value} (hx : a.eval x = vx) (hy : a.eval y = vy) (hq : (eqGuard .eql T x y vx vy).run P w = .ok () w) (hr : (binOp .eql T vx vy).run P w = .ok v w)
    (h : wpList P ops Q rest (a.put o.dst v) w) : wpList P ops Q (o :: rest) a w := by
  refine val hw (v := v) (w' := w) ?_ h
  unfold execOp
  simp only [ho, hx, hy]
  simp [hq, hr]
end

set_option maxHeartbeats 2000000 in
theorem begins_true (n v : Int) (bs : List UInt8) (hl : bs.length = 32) (w : World) :
    Calls Try.prog 6 #[.agg (.int .i64 n :: .int .i64 v :: bv bs).toArray] w fun e w' => e = .returned (.bool true) ∧ Below w.heap.size w w' := by
  have LL := Lib.hid hl
  clear hl
  go_enter Try.func6, Try.ntmps6
  go_wp2_with (with_reducible refine stB 26 ?_)
  refine ⟨bx rfl 26 (.tmp 0) rfl (v := .agg (.int .i64 n :: .int .i64 v :: bv bs).toArray) rfl ?_⟩
  intro W1 z1 hh1 b1
  simp only [Value.cells] at hh1
  have H1 := Lib.hid hh1
  clear hh1
  have facts : ∀ W : World, W.heap[w.heap.size]? = some (.cells (.int .i64 n :: .int .i64 v :: bv bs).toArray 26 (0, 0)) → W.cell? ⟨w.heap.size, 0, none⟩ = some (.int .i64 n) ∧ W.cell? ⟨w.heap.size, 1, none⟩ = some (.int .i64 v) ∧ Cells W w.heap.size 2 (bv bs) := by
    intro W h
    refine ⟨by rw [(live h).1]; rfl, by rw [(live h).1]; rfl, fun j u hj => ?_⟩
    rw [(live h).1, Nat.add_comm]
    simpa using hj
  have FF := Lib.hid facts
  clear facts
  obtain ⟨c0, c1, cR⟩ := FF.out W1 H1.out
  go_wp2_with (with_reducible refine stL 24 ?_)
  refine ⟨ldRow rfl 24 (.tmp 14) rfl rfl (bv bs) cR Try.underlying24 rfl (size24 LL.out) ?_⟩
  clear c0 c1 cR
  go_wp2_with (go_at_call 7; with_reducible refine stK ?_)
  refine ⟨(new_all n v bs LL.out W1).mono ?_⟩
  rintro e W2 ⟨b2, hx⟩
  have s1 := b1.size
  have bb2 := b1.trans (b2.mono (by omega))
  have H2 := Lib.hid ((b2.block w.heap.size (by omega)).trans H1.out)
  rcases hx with ⟨hno, rfl⟩ | ⟨hyes, p, rfl, hp, hpc⟩
  · have NO := Lib.hid hno
    clear hno
    obtain ⟨c0, c1, cR⟩ := FF.out W2 H2.out
    go_wp2_with (with_reducible refine stL 24 ?_)
    refine ⟨ldRow rfl 24 (.tmp 24) rfl rfl (bv bs) cR Try.underlying24 rfl (size24 LL.out) ?_⟩
    clear c0 c1 cR
    go_wp2_with (go_at_call 8; with_reducible refine stK ?_)
    refine ⟨(ref_all n v bs LL.out W2).mono ?_⟩
    rintro e W3 ⟨b3, hx⟩
    rcases hx with ⟨_, rfl⟩ | ⟨hyes, _⟩
    rotate_left
    · exact absurd hyes NO.out
    have s2 := bb2.size
    have bb3 := bb2.trans (b3.mono (by omega))
    go_wp2_with (first | go_skip | (with_reducible refine stBl 24 ?_))
    refine ⟨bl rfl 24 #[(0, .const (.int .u8 7))] rfl rfl built24 ?_⟩
    go_wp2_with (go_at_call 7; with_reducible refine stK ?_)
    refine ⟨(new_all 1 0 sevenBs rfl W3).mono ?_⟩
    rintro e W4 ⟨b4, hx⟩
    rcases hx with ⟨hn, _⟩ | ⟨_, p, rfl, hp, hpc⟩
    · exact absurd ⟨by omega, by omega, by omega, by omega, clear_seven⟩ hn
    have s3 := bb3.size
    have bb4 := bb3.trans (b4.mono (by omega))
    go_wp2_with (first | go_skip | (go_at_call 9; with_reducible refine stK ?_))
    refine ⟨(head_spec 1 0 sevenBs rfl p W4 hpc).mono ?_⟩
    rintro e W5 ⟨rfl, b5⟩
    have s4 := bb4.size
    have bb5 := bb4.trans (b5.mono (by omega))
    have s5 := bb5.size
    rw [seven_cells]
    go_wp2_with (with_reducible refine stAl 24 ?_)
    refine ⟨al rfl 24 rfl (z := .agg (Array.replicate 32 (.int .u8 0))) (by kernel_rfl) ?_⟩
    intro W6 z6 h6 b6
    simp only [Value.cells] at h6
    go_wp2_with (with_reducible refine stW 24 ?_)
    refine ⟨stRow rfl 24 (.tmp 8) (.tmp 58) rfl rfl h6 (c' := sevenCells) rfl (by kernel_rfl) rfl (by rw [← seven_cells]; simpa using bv_one sevenBs) ?_⟩
    clear h6
    intro W7 z7 h7 g7
    have b7 : Below W5.heap.size W5 W7 := b6.grown g7 (by omega) (by simp)
    have bb7 := bb5.trans (b7.mono (by omega))
    have cA := root_cells (bs := sevenBs) h7
    clear h7
    go_wp2_with (first | go_skip | (with_reducible refine stLg 24 ?_))
    refine ⟨ldRow rfl 24 (.tmp 8) rfl rfl (bv sevenBs) cA Try.underlying24 rfl (size24 rfl) ?_⟩
    go_wp2_with (first | go_skip | (with_reducible refine stBlg 24 ?_))
    refine ⟨bl rfl 24 #[(0, .const (.int .u8 7))] rfl rfl built24 ?_⟩
    go_wp2_with (first | go_skip | (with_reducible refine stEg 24 ?_))
    refine ⟨eqlW rfl 24 24 (.tmp 62) (.tmp 63) rfl rfl rfl (by simp [eqGuard, go_sem]) (dig_eq (bs := sevenBs) rfl _) ?_⟩
    go_wp2
    go_ret
    exact ⟨rfl, bb7⟩
  · obtain ⟨c0, c1, cR⟩ := FF.out W2 H2.out
    go_wp2_with (with_reducible refine stL 24 ?_)
    refine ⟨ldRow rfl 24 (.tmp 24) rfl rfl (bv bs) cR Try.underlying24 rfl (size24 LL.out) ?_⟩
    clear c0 c1 cR
    go_wp2_with (go_at_call 8; with_reducible refine stK ?_)
    refine ⟨(ref_all n v bs LL.out W2).mono ?_⟩
    rintro e W3 ⟨b3, hx⟩
    rcases hx with ⟨hno, _⟩ | ⟨_, q, rfl, hq, hqc⟩
    · exact absurd hyes hno
    have s2 := bb2.size
    have bb3 := bb2.trans (b3.mono (by omega))
    have HP := Lib.hid ((b3.block p (Array.getElem?_eq_some_iff.1 hpc).1).trans hpc)
    have HQ := Lib.hid hqc
    have HY := Lib.hid hyes
    clear hpc hqc hyes
    go_wp2_with (first | go_skip | (go_at_call 10; with_reducible refine stK ?_))
    refine ⟨(alike_true n v bs LL.out p q W3 HP.out HQ.out).mono ?_⟩
    rintro e W4 ⟨rfl, b4⟩
    have s3 := bb3.size
    have bb4 := bb3.trans (b4.mono (by omega))
    go_wp2
    go_ret
    exact ⟨rfl, bb4⟩
end Go.Proofs.Ytmedbedpgbbdgaa
