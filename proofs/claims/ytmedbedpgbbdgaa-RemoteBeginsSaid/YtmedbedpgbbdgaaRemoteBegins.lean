/- RemoteBegins is proved: whatever width, version and root it is given, it returns true. -/
import Derived.Test.YtmedbedpgbbdgaaRemote6
import Derived.ProofKit
import Derived.OpenShut
namespace Go.Proofs.Ytmedbedpgbbdgaa.remoteBegins
open Go.ChangeShapes Go.WideShapes Go.ChangeAt Go.RowKit
set_option linter.unusedVariables false

theorem own : ownKnob Try.prog.godebug = none := by kernel_rfl
theorem laidOut : laidOutB Try.prog = true := by kernel_rfl
theorem cells26 : Try.prog.cellsOf 26 = 34 := by kernel_rfl
theorem cells3 : Try.prog.cellsOf 3 = 1 := by kernel_rfl

theorem bytes_of_cells : ∀ (l : List Value), (∀ i, i < l.length → ∃ z, l[i]? = some (.int .u8 z) ∧ 0 ≤ z ∧ z < 256) → ∃ bs, l = bv bs
  | [], _ => ⟨[], rfl⟩
  | x :: l, h => by
    obtain ⟨z, hz, h0, h1⟩ := h 0 (by simp)
    obtain ⟨bs, rfl⟩ := bytes_of_cells l (fun i hi => by
      have := h (i + 1) (by simp; omega)
      simpa using this)
    simp at hz
    subst hz
    exact ⟨UInt8.ofNat z.toNat :: bs, by rw [byteV h0 h1]; rfl⟩

theorem byte_bounds {x : Int} (h : (Lit.int .u8 x).wf = true) : 0 ≤ x ∧ x < 256 := by
  have h1 : IntKind.u8.min = 0 := rfl
  have h2 : IntKind.u8.max = 255 := rfl
  simp only [Lit.wf, Bool.and_eq_true, decide_eq_true_eq] at h
  omega

theorem open_start {H : Type} {enc : TypeId × Value → H} {W : World} {base : Nat} {v0 : Value} {d0 : DataW H} {p0 : List MemPlace} (hv : Value.okWide Try.prog W .any base 26 v0)
    (h0 : DataW.Trod enc Try.prog W 0 (fun _ => true) true 26 v0 d0 p0) : ∃ n v bs, v0 = .agg (.int .i64 n :: .int .i64 v :: bv bs).toArray ∧ bs.length = 32 := by
  obtain ⟨cs, rfl, hcs⟩ := okWide_struct Try.underlying26 hv
  rw [cells26] at hcs
  obtain ⟨fuel, hf⟩ := h0
  obtain ⟨xs, m, rfl, _, hl, hxl, hfs⟩ := DataW.trod_struct Try.underlying26 hf
  obtain ⟨l⟩ := cs
  have hl' : l.length = 34 := by simpa using hcs
  obtain ⟨c0, c1, r, rfl⟩ : ∃ c0 c1 r, l = c0 :: c1 :: r := by
    match l, hl' with
    | c0 :: c1 :: r, _ => exact ⟨c0, c1, r, rfl⟩
  have hr : r.length = 32 := by simpa using hl'
  have get : ∀ i, i < 3 → ∃ x, xs[i]? = some x := fun i hi => ⟨xs[i]'(by rw [hxl]; exact hi), List.getElem?_eq_getElem _⟩
  obtain ⟨x0, hx0⟩ := get 0 (by decide)
  obtain ⟨x1, hx1⟩ := get 1 (by decide)
  obtain ⟨x2, hx2⟩ := get 2 (by decide)
  have f0 : DataW.trod enc Try.prog W 0 (fun _ => true) true m 3 (((c0 :: c1 :: r).drop 0).take (Try.prog.cellsOf 3)) = xs[0]? := hfs 0 _ rfl
  have f1 : DataW.trod enc Try.prog W 0 (fun _ => true) true m 3 (((c0 :: c1 :: r).drop 1).take (Try.prog.cellsOf 3)) = xs[1]? := hfs 1 _ rfl
  have f2 : DataW.trod enc Try.prog W 0 (fun _ => true) true m 24 (((c0 :: c1 :: r).drop 2).take (Try.prog.cellsOf 24)) = xs[2]? := hfs 2 _ rfl
  rw [hx0] at f0
  rw [hx1] at f1
  rw [hx2] at f2
  simp only [cells3, cells24, List.drop_zero, List.take_succ_cons, List.take_zero, List.drop_succ_cons] at f0 f1 f2
  obtain ⟨n, e0, _⟩ := DataW.trod_int Try.underlying3 f0
  obtain ⟨v, e1, _⟩ := DataW.trod_int Try.underlying3 f1
  simp only [List.cons.injEq, and_true] at e0 e1
  subst e0 e1
  rw [List.take_of_length_le (by omega)] at f2
  obtain ⟨ys, k, rfl, _, _, hyl, hall⟩ := DataW.trod_array Try.underlying24 f2
  obtain ⟨bs, rfl⟩ := bytes_of_cells r (fun i hi => by
    have h1 := hall i (by omega)
    obtain ⟨y, hy⟩ : ∃ y, ys[i]? = some y := ⟨ys[i]'(by omega), List.getElem?_eq_getElem _⟩
    rw [hy, cells5, Nat.mul_one] at h1
    obtain ⟨z, hz, _, hw⟩ := DataW.trod_int Try.underlying5 h1
    have := congrArg (·[0]?) hz
    exact ⟨z, by simpa [List.getElem?_take, List.getElem?_drop] using this, byte_bounds hw⟩)
  exact ⟨n, v, bs, rfl, by simpa [bv] using hr⟩

set_option maxRecDepth 100000 in
theorem lifted (os : Os) (started : os.Started) (H : Type) (enc : TypeId × Value → H) :
    ReturnsInHanded {} Try.checked os 6 .any (Rows.remoteBeginsSpec.pre6 enc Try.prog Try.f6 Rows.remoteBeginsRow.domain false) (Rows.remoteBeginsSpec.post enc Try.prog Try.f6 false true false false) := by
  refine returnsInHanded_of_change (C := Try.checked) own started (by kernel_rfl) Try.func6
    (ChangeSpec.witness6 (enc := enc) (C := Try.checked) false ⟨#[], #[.agg #[.int .i64 0, .int .i64 0, .int .u8 0, .int .u8 0, .int .u8 0, .int .u8 0, .int .u8 0, .int .u8 0, .int .u8 0, .int .u8 0, .int .u8 0, .int .u8 0, .int .u8 0, .int .u8 0, .int .u8 0, .int .u8 0, .int .u8 0, .int .u8 0, .int .u8 0, .int .u8 0, .int .u8 0, .int .u8 0, .int .u8 0, .int .u8 0, .int .u8 0, .int .u8 0, .int .u8 0, .int .u8 0, .int .u8 0, .int .u8 0, .int .u8 0, .int .u8 0, .int .u8 0, .int .u8 0]], []⟩ 8 (by kernel_rfl) (by kernel_rfl) (by kernel_rfl) (by kernel_rfl)) ?_
  intro W base args ds gs before hval0 hW hcnd _
  have hval : ∀ (j : Nat) t v, Try.f6.params[j]? = some t → args[j]? = some v → Value.okWide Try.prog W .any base t v := hval0
  have hW' := hW
  obtain ⟨p, q, hA0, hV, rfl, hfz, hnd⟩ := hW
  have hA : DataW.TrodAll enc Try.prog W 0 (fun _ => true) true Try.f6.params.toList args.toList ds p := hA0
  rw [Try.params6] at hA hval
  obtain ⟨v0, vs0, d0, ds0, p0, q0, hargs, rfl, rfl, h0, r0⟩ := trodAll_cons hA
  obtain ⟨rfl, rfl, rfl⟩ := trodAll_nil r0
  obtain rfl : args = #[v0] := by cases args; simp_all
  obtain ⟨rfl, rfl⟩ := trodVars_none hV
  clear hA0 hval0
  simp only [List.append_nil] at hW'
  have hlt : ∀ x ∈ p0, x.block < W.heap.size := fun x hx => by simpa using hW'.lt x hx
  obtain ⟨n, v, bs, rfl, hbs⟩ := open_start (hval 0 26 v0 rfl rfl) h0
  refine (begins_true n v bs hbs W).mono fun e W' ⟨he', hb⟩ => ?_
  subst he'
  exact ⟨_, rfl, _, _, _, [], _, [], hW', trodAll_mk1 (shut_bool Try.underlying4 _), trodAll_mk1 (Below.trod laidOut (by kernel_rfl) (of_decide_eq_true (by kernel_rfl)) h0 hb (fun x hx => hlt x (by simpa using hx))), rfl, hb.frame _, fun h => by cases h⟩

theorem proved : Rows.RemoteBeginsSaid :=
  OpenClaim.holds_of_wide 6 Try.f6 rfl rfl rfl rfl rfl rfl rfl ⟨rfl, rfl, rfl, rfl, rfl⟩ rfl rfl rfl rfl rfl (by kernel_rfl) Try.func6 (by kernel_rfl)
    (of_decide_eq_true (by kernel_rfl)) (by unfold Func.isWrapper; first | (rw [if_pos (by decide +kernel)]; kernel_rfl) | (rw [if_neg (by decide +kernel)]; exact ⟨rfl, rfl⟩))
    (fun os started H enc _ => lifted os started H enc)
end Go.Proofs.Ytmedbedpgbbdgaa.remoteBegins
