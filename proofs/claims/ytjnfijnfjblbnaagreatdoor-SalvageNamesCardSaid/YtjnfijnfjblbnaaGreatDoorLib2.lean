/- Laws of our own for walks, second part: operations on uint32, arrays in variables, over any program. No conditions beyond each law's own. -/
import Derived.Test.YtjnfijnfjblbnaaGreatDoorLib
import Derived.Test.YtjnfijnfjblbnaaGreatDoorCrcPlain
import Derived.Laws.BitsAllLaws
import Derived.Lib.Hide
namespace Go.Proofs.YtjnfijnfjblbnaaGreatDoor
open Go.RowKit
set_option linter.unusedVariables false

theorem View.max {w : World} {v : Value} {n size : Nat} {xs : List Value} (h : View w v n size xs) : n ≤ 9223372036854775807 := by
  rcases h.2 with ⟨_, h1, _⟩ | ⟨b, off, cap, _, _, h1, h2, _⟩
  · omega
  · unfold maxLen at h2; omega
theorem View.cap {w : World} {q : Option Addr} {n c m size : Nat} {xs : List Value} (h : View w (.slice q n c) m size xs) : n = m ∧ n ≤ c ∧ c ≤ 9223372036854775807 := by
  rcases h.2 with ⟨h0, h1, _⟩ | ⟨b, off, cap, h0, _, h1, h2, _⟩
  · simp only [Value.slice.injEq] at h0; omega
  · simp only [Value.slice.injEq] at h0; unfold maxLen at h2; omega

section
variable {P : Program} {w : World} {ops : Array Oper} {rest : List Oper} {o : Oper} {a : Act} {Q : Exit → Act → World → Prop}

/-- A binary operation whose run is known. -/
theorem bin (hw : Region.wanted o (yielded ops a.tmps) = true) (op : BinOp) (t u : TypeId) (x y : Operand) (ho : o.op = .binOp op t x y u) {p q v : Value} (hx : a.eval x = p) (hy : a.eval y = q)
    (hg : (eqGuard op t x y p q).run P w = .ok () w) (hr : (binOp op t p q).run P w = .ok v w) (h : wpList P ops Q rest (a.put o.dst v) w) : wpList P ops Q (o :: rest) a w := by
  refine val hw (v := v) (w' := w) ?_ h
  unfold execOp
  simp only [ho, hx, hy]
  simp [hg, hr]

theorem xor32 (hw : Region.wanted o (yielded ops a.tmps) = true) {t u : TypeId} {x y : Operand} (ho : o.op = .binOp .xor t x y u) {p q : Nat} (hx : a.eval x = .int .u32 p) (hy : a.eval y = .int .u32 q) (hp : p < 4294967296) (hq : q < 4294967296)
    (r : Nat) (hr : p ^^^ q = r) (h : wpList P ops Q rest (a.put o.dst (.int .u32 r)) w) : wpList P ops Q (o :: rest) a w := by
  subst hr
  refine bin hw .xor t u x y ho hx hy (by simp [eqGuard]) ?_ h
  have := u32_xor_nat p q hp hq
  unfold binOp
  simp only [ne_eq, not_true_eq_false, if_false]
  show (Op.intBits .xor .u32 p q).run P w = _
  simp only [Op.intBits]
  have e : bits .xor .u32 (p : Int) (q : Int) = _ := this
  unfold bits at e
  simp only at e
  rw [Sem.run_pure, e]

theorem low32 (hw : Region.wanted o (yielded ops a.tmps) = true) {t u : TypeId} {x y : Operand} (ho : o.op = .binOp .and t x y u) {p : Nat} (n : Nat) (hx : a.eval x = .int .u32 p) (hy : a.eval y = .int .u32 ((2 ^ n - 1 : Nat) : Int)) (hp : p < 4294967296) (hn : n ≤ 32)
    (r : Nat) (hr : p % 2 ^ n = r) (h : wpList P ops Q rest (a.put o.dst (.int .u32 r)) w) : wpList P ops Q (o :: rest) a w := by
  subst hr
  refine bin hw .and t u x y ho hx hy (by simp [eqGuard]) ?_ h
  have hq : 2 ^ n - 1 < 4294967296 := by
    have := Nat.pow_le_pow_right (n := 2) (by decide) hn
    have := Nat.two_pow_pos n
    omega
  have := u32_and_nat p (2 ^ n - 1) hp hq
  rw [Nat.and_two_pow_sub_one_eq_mod] at this
  unfold binOp
  simp only [ne_eq, not_true_eq_false, if_false]
  show (Op.intBits .and .u32 p ((2 ^ n - 1 : Nat) : Int)).run P w = _
  simp only [Op.intBits]
  have e : bits .and .u32 (p : Int) ((2 ^ n - 1 : Nat) : Int) = _ := this
  unfold bits at e
  simp only at e
  rw [Sem.run_pure, e]

theorem shr32 (hw : Region.wanted o (yielded ops a.tmps) = true) {t u : TypeId} {x y : Operand} (ho : o.op = .binOp .shr t x y u) {p n : Nat} {k : IntKind} (hx : a.eval x = .int .u32 p) (hy : a.eval y = .int k n) (hn : n ≤ 32)
    (r : Nat) (hr : p / 2 ^ n = r) (h : wpList P ops Q rest (a.put o.dst (.int .u32 r)) w) : wpList P ops Q (o :: rest) a w := by
  subst hr
  refine bin hw .shr t u x y ho hx hy (by simp [eqGuard]) ?_ h
  unfold binOp
  simp only
  rw [shift_shr_any _ _ _ _ (by omega), Sem.run_pure]
  have : min (n : Int).toNat IntKind.u32.bits = n := by simp [IntKind.bits]; omega
  rw [this]
  congr 2

/-- '^x' at a uint32. -/
theorem not32 (hw : Region.wanted o (yielded ops a.tmps) = true) {t : TypeId} {x : Operand} (ho : o.op = .unOp .xor t x) {p : Nat} (hx : a.eval x = .int .u32 p) (hp : p < 4294967296)
    (r : Nat) (hr : Crc.inv p = r) (h : wpList P ops Q rest (a.put o.dst (.int .u32 r)) w) : wpList P ops Q (o :: rest) a w := by
  subst hr
  refine val hw (v := .int .u32 ((Crc.inv p : Nat) : Int)) (w' := w) ?_ h
  unfold execOp
  simp only [ho, hx]
  have e : bits .xor .u32 ((4294967295 : Nat) : Int) (p : Int) = _ := u32_xor_nat 4294967295 p (by decide) hp
  rw [Nat.xor_comm, ← Crc.inv_xor hp] at e
  have hrun : (Op.unary .xor (.int .u32 p)).run P w = .ok (.int .u32 ((Crc.inv p : Nat) : Int)) w := by
    show (Op.intBits .xor .u32 ((4294967295 : Nat) : Int) p).run P w = _
    simp only [Op.intBits]
    unfold bits at e
    simp only at e
    rw [Sem.run_pure, e]
  simp only [Sem.run_bind, hrun, Result.andThen_ok, Sem.run_pure]

theorem run_arr {t e : TypeId} {n : Nat} (ht : P.underlying t = some (.array n e)) (q : Option Addr) (m c : Nat) (h : n ≤ m) (w : World) : (Instr.arrayAt t (.slice q m c)).run P w = .ok (.pointer q) w := by
  simp [Instr.arrayAt, run_underlying ht, Nat.not_lt.2 h]

theorem View.some {w : World} {q : Option Addr} {n c size : Nat} {xs : List Value} (h : View w (.slice q n c) n size xs) (hn : 0 < n) : ∃ b off, q = Option.some ⟨b, off, none⟩ ∧ b < w.heap.size ∧ Cells w b off xs := by
  rcases h.2 with ⟨h0, h1, _⟩ | ⟨b, off, cap, h0, _, _, _, h4, h5⟩
  · omega
  · simp only [Value.slice.injEq] at h0
    exact ⟨b, off, h0.1, h4, h5⟩

/-- '==' of two integers of one kind. -/
theorem eqI (hw : Region.wanted o (yielded ops a.tmps) = true) {t u : TypeId} {x y : Operand} (ho : o.op = .binOp .eql t x y u) {k : IntKind} {p q : Int} (hx : a.eval x = .int k p) (hy : a.eval y = .int k q)
    (r : Bool) (hr : decide (p = q) = r) (h : wpList P ops Q rest (a.put o.dst (.bool r)) w) : wpList P ops Q (o :: rest) a w := by
  subst hr
  refine bin hw .eql t u x y ho hx hy (by simp [eqGuard]) ?_ h
  unfold binOp
  simp [Op.intCmp]
  try rfl

theorem shl32 (hw : Region.wanted o (yielded ops a.tmps) = true) {t u : TypeId} {x y : Operand} (ho : o.op = .binOp .shl t x y u) {p n : Nat} {k : IntKind} {i : Int} (hx : a.eval x = .int .u32 p) (hy : a.eval y = .int k i) (hi : i = (n : Int)) (hn : n ≤ 32) (hlt : p * 2 ^ n < 4294967296)
    (r : Nat) (hr : p * 2 ^ n = r) (h : wpList P ops Q rest (a.put o.dst (.int .u32 r)) w) : wpList P ops Q (o :: rest) a w := by
  subst hr
  subst hi
  refine bin hw .shl t u x y ho hx hy (by simp [eqGuard]) ?_ h
  unfold binOp
  simp only
  rw [shift_shl_any _ _ _ _ (by omega), Sem.run_pure]
  have : min (n : Int).toNat IntKind.u32.bits = n := by simp [IntKind.bits]; omega
  have hq : ∀ q : Nat, q < 4294967296 → IntKind.u32.wrap (q : Int) = q := fun q hq => by rw [IntKind.wrap_u32']; omega
  rw [this, show ((p : Int) * 2 ^ n) = ((p * 2 ^ n : Nat) : Int) by simp, hq _ hlt]

theorem or32 (hw : Region.wanted o (yielded ops a.tmps) = true) {t u : TypeId} {x y : Operand} (ho : o.op = .binOp .or t x y u) {p q : Nat} (hx : a.eval x = .int .u32 p) (hy : a.eval y = .int .u32 q) (hp : p < 4294967296) (hq : q < 4294967296)
    (r : Nat) (hr : p ||| q = r) (h : wpList P ops Q rest (a.put o.dst (.int .u32 r)) w) : wpList P ops Q (o :: rest) a w := by
  subst hr
  refine bin hw .or t u x y ho hx hy (by simp [eqGuard]) ?_ h
  have := u32_or_nat p q hp hq
  unfold binOp
  simp only [ne_eq, not_true_eq_false, if_false]
  show (Op.intBits .or .u32 p q).run P w = _
  simp only [Op.intBits]
  have e : bits .or .u32 (p : Int) (q : Int) = _ := this
  unfold bits at e
  simp only at e
  rw [Sem.run_pure, e]

theorem shl8 (hw : Region.wanted o (yielded ops a.tmps) = true) {t u : TypeId} {x y : Operand} (ho : o.op = .binOp .shl t x y u) {k : Nat} (hx : a.eval x = .int .u8 1) (hy : a.eval y = .int .i64 k) (hk : k < 8)
    (r : Nat) (hr : 2 ^ k = r) (h : wpList P ops Q rest (a.put o.dst (.int .u8 r)) w) : wpList P ops Q (o :: rest) a w := by
  subst hr
  refine bin hw .shl t u x y ho hx hy (by simp [eqGuard]) ?_ h
  match k, hk with
  | 0, _ => rfl
  | 1, _ => rfl
  | 2, _ => rfl
  | 3, _ => rfl
  | 4, _ => rfl
  | 5, _ => rfl
  | 6, _ => rfl
  | 7, _ => rfl

/-- 'make' whose run is known. -/
theorem mk1 (hw : Region.wanted o (yielded ops a.tmps) = true) {t e : TypeId} {x y : Operand} (ho : o.op = .makeSlice t x y) {p q : Value} (hx : a.eval x = p) (hy : a.eval y = q) {n m : Nat} {cs : Array Value}
    (hr : (Instr.makeSlice t p q).run P w = .ok (.slice (some ⟨w.heap.size, 0, none⟩) n m) (w.alloc (.cells cs e)))
    (h : ∀ W, W.heap.size = w.heap.size + 1 → W.heap[w.heap.size]? = some (.cells cs e (0, 0)) → Below w.heap.size w W → wpList P ops Q rest (a.put o.dst (.slice (some ⟨w.heap.size, 0, none⟩) n m)) W) : wpList P ops Q (o :: rest) a w := by
  refine val hw (v := .slice (some ⟨w.heap.size, 0, none⟩) n m) (w' := w.alloc (.cells cs e)) ?_ (h _ (by simp) (heap_alloc_new w _) ((Below.refl _ _).alloc (Nat.le_refl _) _))
  unfold execOp
  simp only [ho, hx, hy, Sem.run_bind, Sem.run_pure, hr, Result.andThen_ok]

/-- '[]T{x}' of one cell. -/
theorem bs1 (hw : Region.wanted o (yielded ops a.tmps) = true) {t e : TypeId} {x : Operand} (ho : o.op = .buildSlice t 1 #[(0, x)]) {v : Value} (hx : a.eval x = v)
    (hbs : (Instr.buildSlice t 1 #[(0, v)]).run P w = .ok (.slice (some ⟨w.heap.size, 0, none⟩) 1 1) (w.alloc (.cells #[v] e)))
    (h : ∀ W, W.heap.size = w.heap.size + 1 → W.heap[w.heap.size]? = some (.cells #[v] e (0, 0)) → Below w.heap.size w W → wpList P ops Q rest (a.put o.dst (.slice (some ⟨w.heap.size, 0, none⟩) 1 1)) W) : wpList P ops Q (o :: rest) a w := by
  refine val hw (v := .slice (some ⟨w.heap.size, 0, none⟩) 1 1) (w' := w.alloc (.cells #[v] e)) ?_ (h _ (by simp) (heap_alloc_new w _) ((Below.refl _ _).alloc (Nat.le_refl _) _))
  unfold execOp
  simp only [ho]
  have : (#[(0, x)] : Array (Nat × Operand)).map (fun p => (p.1, a.eval p.2)) = #[(0, v)] := by simp [hx]
  simp only [Sem.run_bind, Sem.run_pure, this, hbs, Result.andThen_ok]

/-- 'x[i]' of an array's value. -/
theorem idxV {t e : TypeId} {n : Nat} (ht : P.underlying t = some (.array n e)) (hs : (P.info? e).map (·.size) = some 1) (hagg : (isAgg e).run P w = .ok false w) (hw : Region.wanted o (yielded ops a.tmps) = true) (x ix : Operand)
    (ho : o.op = .index t x ix) {xs : Array Value} (hx : a.eval x = .agg xs) {k : IntKind} {i : Int} (hi : a.eval ix = .int k i) (j : Nat) (hj : i = j) (hlt : j < n) (v : Value) (hv : xs[j]? = some v)
    (hn : wpList P ops Q rest (a.put o.dst v) w) : wpList P ops Q (o :: rest) a w := by
  subst hj
  refine val hw (v := v) (w' := w) ?_ hn
  unfold execOp
  simp only [ho, hx, hi]
  cases hq : P.info? e with
  | none => simp [hq] at hs
  | some q =>
    simp [hq] at hs
    simp [Instr.index, run_underlying ht, asIntOf, sizeOf, typeInfo, hq, hs, hlt, part, hagg, hv]

/-- '&x[i]' at an array behind a pointer. -/
theorem idxA {t e : TypeId} {n size : Nat} (ht : P.underlying t = some (.array n e)) (hs : (P.info? e).map (·.size) = some size) (hw : Region.wanted o (yielded ops a.tmps) = true) (x ix : Operand)
    (ho : o.op = .indexAddr t x ix) {b off : Nat} (hx : a.eval x = .pointer (some ⟨b, off, none⟩)) {k : IntKind} {i : Int} (hi : a.eval ix = .int k i) (j : Nat) (hj : i = j) (hlt : j < n)
    (hn : wpList P ops Q rest (a.put o.dst (.pointer (some ⟨b, off + j * size, none⟩))) w) : wpList P ops Q (o :: rest) a w := by
  subst hj
  refine val hw (v := .pointer (some ⟨b, off + j * size, none⟩)) (w' := w) ?_ hn
  unfold execOp
  simp only [ho, hx, hi]
  cases hq : P.info? e with
  | none => simp [hq] at hs
  | some q =>
    simp [hq] at hs
    simp [Instr.indexAt, Instr.sureAddr, run_underlying ht, asIntOf, sizeOf, typeInfo, hq, hs, hlt, add_off]
end
end Go.Proofs.YtjnfijnfjblbnaaGreatDoor
