/- RemoteBegins: laws for a digest of 32 cells; New on both sides. -/
import Derived.Test.YtmedbedpgbbdgaaLib
import Derived.Lib.Hide
namespace Go.Proofs.Ytmedbedpgbbdgaa
open Go.RowKit
set_option linter.unusedVariables false

theorem thirty2 {cs : Array Value} (h : cs.size = 32) : ∃ c0 c1 c2 c3 c4 c5 c6 c7 c8 c9 c10 c11 c12 c13 c14 c15 c16 c17 c18 c19 c20 c21 c22 c23 c24 c25 c26 c27 c28 c29 c30 c31, cs = #[c0, c1, c2, c3, c4, c5, c6, c7, c8, c9, c10, c11, c12, c13, c14, c15, c16, c17, c18, c19, c20, c21, c22, c23, c24, c25, c26, c27, c28, c29, c30, c31] := by
  rcases cs with ⟨l⟩
  rcases l with _ | ⟨c0, _ | ⟨c1, _ | ⟨c2, _ | ⟨c3, _ | ⟨c4, _ | ⟨c5, _ | ⟨c6, _ | ⟨c7, _ | ⟨c8, _ | ⟨c9, _ | ⟨c10, _ | ⟨c11, _ | ⟨c12, _ | ⟨c13, _ | ⟨c14, _ | ⟨c15, _ | ⟨c16, _ | ⟨c17, _ | ⟨c18, _ | ⟨c19, _ | ⟨c20, _ | ⟨c21, _ | ⟨c22, _ | ⟨c23, _ | ⟨c24, _ | ⟨c25, _ | ⟨c26, _ | ⟨c27, _ | ⟨c28, _ | ⟨c29, _ | ⟨c30, _ | ⟨c31, _ | ⟨c32, l⟩⟩⟩⟩⟩⟩⟩⟩⟩⟩⟩⟩⟩⟩⟩⟩⟩⟩⟩⟩⟩⟩⟩⟩⟩⟩⟩⟩⟩⟩⟩⟩⟩
  all_goals first | exact ⟨_, _, _, _, _, _, _, _, _, _, _, _, _, _, _, _, _, _, _, _, _, _, _, _, _, _, _, _, _, _, _, _, rfl⟩ | (simp at h)

theorem list32 {l : List Value} (h : l.length = 32) : ∃ c0 c1 c2 c3 c4 c5 c6 c7 c8 c9 c10 c11 c12 c13 c14 c15 c16 c17 c18 c19 c20 c21 c22 c23 c24 c25 c26 c27 c28 c29 c30 c31, l = [c0, c1, c2, c3, c4, c5, c6, c7, c8, c9, c10, c11, c12, c13, c14, c15, c16, c17, c18, c19, c20, c21, c22, c23, c24, c25, c26, c27, c28, c29, c30, c31] := by
  obtain ⟨c0, c1, c2, c3, c4, c5, c6, c7, c8, c9, c10, c11, c12, c13, c14, c15, c16, c17, c18, c19, c20, c21, c22, c23, c24, c25, c26, c27, c28, c29, c30, c31, e⟩ := thirty2 (cs := l.toArray) (by simpa using h)
  exact ⟨_, _, _, _, _, _, _, _, _, _, _, _, _, _, _, _, _, _, _, _, _, _, _, _, _, _, _, _, _, _, _, _, congrArg Array.toList e⟩
theorem built37 (v : Int) {l : List Value} (h : l.length = 32) : Try.prog.built 37 [(0, .int .i64 v), (1, .agg l.toArray)] = some (.int .i64 v :: l).toArray := by
  obtain ⟨c0, c1, c2, c3, c4, c5, c6, c7, c8, c9, c10, c11, c12, c13, c14, c15, c16, c17, c18, c19, c20, c21, c22, c23, c24, c25, c26, c27, c28, c29, c30, c31, rfl⟩ := list32 h
  kernel_rfl
theorem built39 (v n : Int) {l : List Value} (h : l.length = 32) : Try.prog.built 39 [(0, .agg (.int .i64 v :: l).toArray), (1, .int .i64 n)] = some (.int .i64 v :: (l ++ [.int .i64 n])).toArray := by
  obtain ⟨c0, c1, c2, c3, c4, c5, c6, c7, c8, c9, c10, c11, c12, c13, c14, c15, c16, c17, c18, c19, c20, c21, c22, c23, c24, c25, c26, c27, c28, c29, c30, c31, rfl⟩ := list32 h
  kernel_rfl
theorem built43 (v n : Int) {l : List Value} (h : l.length = 32) : Try.prog.built 43 [(0, .int .i64 n), (1, .int .i64 v), (2, .agg l.toArray)] = some (.int .i64 n :: .int .i64 v :: l).toArray := by
  obtain ⟨c0, c1, c2, c3, c4, c5, c6, c7, c8, c9, c10, c11, c12, c13, c14, c15, c16, c17, c18, c19, c20, c21, c22, c23, c24, c25, c26, c27, c28, c29, c30, c31, rfl⟩ := list32 h
  kernel_rfl

section
variable {P : Program} {w : World} {ops : Array Oper} {rest : List Oper} {o : Oper} {a : Act} {Q : Exit → Act → World → Prop} {d : Option Tmp} {ty : TypeId} {pos : String} {af : Array Edge}
theorem stBl (t : TypeId) {ps : Array (Nat × Operand)} (s : Stop (wpList P ops Q (⟨d, .build t ps, ty, pos, af, none⟩ :: rest) a w)) : wpList P ops Q (⟨d, .build t ps, ty, pos, af, none⟩ :: rest) a w := s.out
theorem bl (hw : Region.wanted o (yielded ops a.tmps) = true) (t : TypeId) (parts : Array (Nat × Operand)) (ho : o.op = .build t parts) {ps : List (Nat × Value)} (hp : (parts.toList.map fun (i, x) => (i, a.eval x)) = ps) {cells : Array Value} (hb : P.built t ps = some cells)
    (hn : wpList P ops Q rest (a.put o.dst (.agg cells)) w) : wpList P ops Q (o :: rest) a w := by
  have hb' : P.built t (parts.map fun (i, x) => (i, a.eval x)).toList = some cells := by rw [Array.toList_map, hp]; exact hb
  refine val hw (v := .agg cells) (w' := w) ?_ hn
  unfold execOp
  simp [ho, run_build w t _ cells hb']
end
end Go.Proofs.Ytmedbedpgbbdgaa
