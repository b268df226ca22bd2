/- TxnNames: the statement of its row, and its card. No conditions beyond the row's own: the fixed errors read as the program's text lays them. -/
import Derived.Test.YtmedbedpgbbdgaaDoorCards
import Derived.Test.YtmedbedpgbbdgaaDoorTie
import Derived.Test.YtmedbedpgbbdgaaDoorTxnTop
import Derived.ProofKit
import Derived.Lib.LaidTab
import Derived.SizedLaws
import Derived.OpenShut
import Derived.Stop.ErrReads
import Derived.Deep.DeepHandedRow
import Derived.Deep.DeepLaidRun
namespace Go.Proofs.YtmedbedpgbbdgaaDoor.txnNames
open Go.ChangeShapes Go.WideShapes Go.ChangeAt Go.RowKit
set_option linter.unusedVariables false

theorem own : ownKnob Tryd.prog.godebug = none := by kernel_rfl
theorem laidOut : laidOutB Tryd.prog = true := by kernel_rfl
theorem star : "*" ++ "errors.errorString" = "*errors.errorString" := by decide
theorem rowPtr (u : TypeId) (h : Tryd.prog.typeName? 3 u = some "*errors.errorString") : u = 76 :=
  typeName_ptr_named (nm := "errors.errorString") (by rw [star]; kernel_rfl) (by kernel_rfl) (by decide) u (by rw [star]; exact h)
theorem cellsText : Tryd.prog.cellsOf 102 = 1 := by kernel_rfl
theorem cellsString : Tryd.prog.cellsOf 9 = 1 := by kernel_rfl

/-- The variables of the list, in its order. -/
def vars : List Nat := [3, 4, 5, 6, 7, 8, 9, 10, 11, 12, 13, 14, 15, 16, 17, 0, 1, 18, 19, 20]
/-- A variable's place in the list. -/
def at_ (g : Nat) : Nat := vars.idxOf g

theorem globals_named : Rows.txnNamesRow.laid.map (fun x => Tryd.prog.globalNamed x.1) = vars.map some := by kernel_rfl
theorem globals_type : ∀ g ∈ vars, (Tryd.prog.globals[g]?).map (·.type) = some 41 := by
  intro g hg
  simp only [vars, List.mem_cons, List.not_mem_nil, or_false] at hg
  rcases hg with rfl | rfl | rfl | rfl | rfl | rfl | rfl | rfl | rfl | rfl | rfl | rfl | rfl | rfl | rfl | rfl | rfl | rfl | rfl | rfl <;> kernel_rfl
theorem laid_form : ∀ x ∈ Rows.txnNamesRow.laid, ∃ text, x.2 = .iface "*errors.errorString" (.ptr (.agg [.lit (.string text)])) := by
  intro x hx
  simp only [Rows.txnNamesRow, List.mem_cons, List.not_mem_nil, or_false] at hx
  rcases hx with rfl | rfl | rfl | rfl | rfl | rfl | rfl | rfl | rfl | rfl | rfl | rfl | rfl | rfl | rfl | rfl | rfl | rfl | rfl | rfl <;> exact ⟨_, rfl⟩

theorem fixed_laid {W : World} (h : laidMetH Tryd.prog Rows.txnNamesRow.laid W) : ∃ a, Fixed W a := by
  have h' : laidMet Tryd.prog Rows.txnNamesRow.laid W := h
  obtain ⟨ps, hv, hnd, hrows⟩ := h'
  obtain ⟨ad, hl, hn, _, hS⟩ := laid_each Tryd.underlying41 rowPtr Tryd.underlying76 Tryd.underlying102 rfl rfl Tryd.underlying9 cellsText cellsString
    Rows.txnNamesRow.laid vars ps hv laid_form globals_named globals_type hrows hnd
  have hl' : ad.length = 20 := hl
  have key : ∀ (i g : Nat), vars[i]? = some g → Sent W 76 g (ad.getD (at_ g) ⟨0, 0, none⟩) := by
    intro i g hg
    have hi : at_ g = i := by
      have hlt : i < 20 := (List.getElem?_eq_some_iff.1 hg).1
      have hall : ∀ j, j < 20 → ∀ g, vars[j]? = some g → at_ g = j := by decide
      exact hall i hlt g hg
    obtain ⟨a, h1, h2⟩ := hS i g hg
    rw [hi, List.getD, h1]
    exact h2
  have cells : ∀ (i g : Nat), vars[i]? = some g → W.cell? ⟨g, 0, none⟩ = some (.iface 76 (.pointer (some (ad.getD (at_ g) ⟨0, 0, none⟩)))) := fun i g hg => (key i g hg).1
  have inv : ∀ g, g < 21 → g ≠ 2 → vars[at_ g]? = some g ∧ at_ g < 20 := by decide
  exact ⟨fun g => ad.getD (at_ g) ⟨0, 0, none⟩, cells 0 3 rfl, cells 1 4 rfl, cells 2 5 rfl, cells 3 6 rfl, cells 4 7 rfl, cells 5 8 rfl, cells 6 9 rfl, cells 7 10 rfl, cells 8 11 rfl, cells 9 12 rfl, cells 10 13 rfl, cells 11 14 rfl, cells 12 15 rfl, cells 13 16 rfl, cells 14 17 rfl, cells 15 0 rfl, cells 16 1 rfl, cells 17 18 rfl, cells 18 19 rfl, cells 19 20 rfl, 
    fun g h1 h2 => (key _ g (inv g h1 h2).1).2,
    fun g k h1 h2 h3 h4 h5 e => by
      obtain ⟨i1, j1⟩ := inv g h1 h3
      obtain ⟨i2, j2⟩ := inv k h2 h4
      simp only [List.getD, List.getElem?_eq_getElem (show at_ g < ad.length by omega), List.getElem?_eq_getElem (show at_ k < ad.length by omega), Option.getD_some] at e
      have hat : at_ g = at_ k := by
        have hp := List.pairwise_iff_getElem.1 hn
        rcases Nat.lt_trichotomy (at_ g) (at_ k) with q | q | q
        · exact absurd e (hp _ _ (by omega) (by omega) q)
        · exact q
        · exact absurd e.symm (hp _ _ (by omega) (by omega) q)
      rw [hat, i2] at i1
      exact h5 (Option.some.inj i1).symm⟩

theorem contract (H : Type) (enc : TypeId × Value → H) (W : World) (base : Nat) (args : Array Value) (ds gs : List (DataW H)) (before : List MemPlace)
    (hW : DataW.Whole enc Tryd.prog Tryd.f5.params.toList Rows.txnNamesSpec.vars false W args.toList ds gs before)
    (hL : laidMetH Tryd.prog Rows.txnNamesRow.laid W) :
    Calls Tryd.prog 5 args W fun e W' => ∃ v, e = .returned v ∧ Rows.txnNamesSpec.post enc Tryd.prog Tryd.f5 false true false false W args v W' := by
  have hW' := hW
  obtain ⟨p, q, hA0, hV, rfl, hfz, hnd⟩ := hW
  have hA : DataW.TrodAll enc Tryd.prog W 0 (fun _ => true) true Tryd.f5.params.toList args.toList ds p := hA0
  rw [Tryd.params5] at hA
  obtain ⟨hargs, rfl, rfl⟩ := trodAll_nil hA
  obtain rfl : args = #[] := by cases args; simp_all
  obtain ⟨rfl, rfl⟩ := trodVars_none hV
  clear hA0
  simp only [List.append_nil] at hW'
  obtain ⟨a, hF⟩ := fixed_laid hL
  refine (names_true a W hF).mono fun e W' ⟨he', hb⟩ => ?_
  subst he'
  subst hb
  exact ⟨_, rfl, _, _, _, [], _, [], hW', trodAll_mk1 (shut_bool Tryd.underlying4 _), trodAll_mk0, rfl, World.keptBut_refl _ _, fun h => by cases h⟩

/-- The fixed errors' texts, in the list's order. -/
def texts : List (List UInt8) := [[97, 32, 110, 117, 109, 98, 101, 114, 32, 116, 104, 97, 116, 32, 109, 97, 121, 32, 110, 111, 116, 32, 98, 101], [116, 104, 101, 32, 100, 105, 115, 107, 32, 104, 97, 115, 32, 110, 111, 32, 112, 111, 119, 101, 114], [111, 108, 100, 101, 114, 32, 116, 104, 97, 110, 32, 116, 104, 101, 32, 108, 97, 115, 116, 32, 99, 114, 97, 115, 104], [116, 104, 101, 32, 100, 105, 115, 107, 32, 105, 115, 32, 99, 111, 114, 114, 117, 112, 116], [110, 111, 32, 112, 97, 103, 101, 32, 105, 115, 32, 108, 101, 102, 116], [110, 111, 32, 98, 97, 116, 99, 104], [116, 111, 111, 32, 109, 97, 110, 121, 32, 99, 104, 97, 110, 103, 101, 115], [97, 32, 118, 97, 108, 117, 101, 32, 116, 111, 111, 32, 108, 111, 110, 103], [111, 110, 101, 32, 107, 101, 121, 32, 116, 119, 105, 99, 101], [110, 111, 116, 104, 105, 110, 103, 32, 105, 115, 32, 108, 97, 105, 100, 32, 104, 101, 114, 101], [116, 104, 101, 114, 101, 32, 105, 115, 32, 115, 111, 109, 101, 116, 104, 105, 110, 103, 32, 97, 108, 114, 101, 97, 100, 121], [116, 104, 101, 32, 108, 111, 119, 32, 101, 110, 100, 32, 108, 105, 101, 115, 32, 97, 98, 111, 118, 101, 32, 116, 104, 101, 32, 104, 105, 103, 104, 32, 101, 110, 100], [110, 111, 32, 115, 117, 99, 104, 32, 118, 101, 114, 115, 105, 111, 110, 32, 121, 101, 116], [97, 32, 118, 101, 114, 115, 105, 111, 110, 32, 98, 101, 108, 111, 119, 32, 116, 104, 101, 32, 102, 105, 114, 115, 116], [110, 111, 116, 32, 97, 32, 107, 101, 121, 39, 115, 32, 98, 121, 116, 101, 115], [110, 111, 32, 115, 117, 99, 104, 32, 116, 114, 97, 110, 115, 97, 99, 116, 105, 111, 110], [119, 104, 97, 116, 32, 119, 97, 115, 32, 114, 101, 97, 100, 32, 104, 97, 115, 32, 99, 104, 97, 110, 103, 101, 100], [110, 111, 32, 115, 116, 114, 101, 97, 109], [116, 104, 101, 32, 115, 116, 114, 101, 97, 109, 32, 98, 101, 103, 105, 110, 115, 32, 101, 108, 115, 101, 119, 104, 101, 114, 101], [97, 110, 111, 116, 104, 101, 114, 32, 114, 111, 111, 116, 32, 116, 104, 97, 110, 32, 116, 104, 101, 32, 115, 116, 114, 101, 97, 109, 32, 115, 97, 121, 115]]
noncomputable def low : Nat := (World.holding Tryd.prog default ⟨#[], #[], []⟩).heap.size
/-- A world for the witness: the settled one, each fixed error as the program's text lays it. -/
noncomputable def laidWorld (os : Os) : World :=
  let w0 := World.holding Tryd.prog os ⟨(texts.map fun t => Obj.cells #[.string ⟨t.toArray⟩] 102).toArray, #[], []⟩
  { w0 with heap := vars.zipIdx.foldl (fun h x => h.modify x.1 fun
      | .cells _ t frozen => .cells #[.iface 76 (.pointer (some ⟨low + x.2, 0, none⟩))] t frozen
      | o => o) w0.heap }
theorem laid_met (os : Os) : laidMet Tryd.prog Rows.txnNamesRow.laid ((laidWorld os).forCall (fun _ _ => 0) ⟨#[], #[], []⟩).memory :=
  laidMet_of_run3 8 (by kernel_rfl) (by kernel_rfl) (by kernel_rfl)
theorem reads (os : Os) {H : Type} (enc : TypeId × Value → H) : ∃ places, DataW.whole enc Tryd.prog ((laidWorld os).forCall (fun _ _ => 0) ⟨#[], #[], []⟩).memory Tryd.f5.params.toList Rows.txnNamesSpec.vars false (#[] : Array Value).toList 8 = some ([], [], places) :=
  ⟨[], by kernel_rfl⟩

set_option maxRecDepth 100000 in
theorem lifted (os : Os) (started : os.Started) (H : Type) (enc : TypeId × Value → H) (F : Stop.Interp) :
    ReturnsInHanded {} Tryd.checked os 5 .any ((OpenSpec.ofChange Rows.txnNamesSpec).preRow enc Tryd.prog Tryd.f5 Rows.txnNamesRow.domain false Rows.txnNamesRow.laid) (((OpenSpec.ofChange Rows.txnNamesSpec).at F).post enc Tryd.prog Tryd.f5 false true false false) := by
  obtain ⟨places, hx⟩ := reads os enc
  refine returnsInHanded_of_row (C := Tryd.checked) (s := OpenSpec.ofChange Rows.txnNamesSpec) own started (by kernel_rfl) Tryd.func5
    (witness_row_at (enc := enc) (C := Tryd.checked) false (laidWorld os) #[] rfl (by kernel_rfl) (by kernel_rfl) (by kernel_rfl)
      (OpenSpec.preRow_of_cond 8 hx (by kernel_rfl) (fun k hk => by cases hk) (by kernel_rfl) (laid_met os))) ?_
  intro W base args ds gs before hval hW _ _ hsz hL _ _
  exact contract H enc W base args ds gs before hW hL

theorem said : Rows.TxnNamesSaid :=
  OpenClaim.holds_of_cond 5 Tryd.f5 rfl rfl rfl rfl rfl rfl rfl ⟨rfl, rfl, rfl, rfl, rfl⟩ rfl rfl rfl rfl rfl (by kernel_rfl) Tryd.func5 (by kernel_rfl)
    (of_decide_eq_true (by kernel_rfl)) (by unfold Func.isWrapper; first | (rw [if_pos (by decide +kernel)]; kernel_rfl) | (rw [if_neg (by decide +kernel)]; exact ⟨rfl, rfl⟩))
    (fun os started H enc _ F => by rw [OpenClaim.pre_eq_preRow]; exact lifted os started H enc F)

theorem plain (f : FuncId) (fn : Func) (hf : Tryd.pinned.checked.prog.funcNamed "ledger/ledgerlaw18.TxnNames" = some f) (hfn : Tryd.pinned.checked.prog.funcs[f]? = some fn) :
    true = Tryd.pinned.checked.prog.looks [] ∧ ∀ (j : Nat) t, fn.params[j]? = some t → Tryd.pinned.checked.prog.wantsStandIn t = false := by
  obtain rfl : f = 5 := Option.some.inj ((show Tryd.prog.funcNamed "ledger/ledgerlaw18.TxnNames" = some 5 by kernel_rfl).symm.trans hf) |>.symm
  obtain rfl : fn = Tryd.f5 := (Option.some.inj (Tryd.func5.symm.trans hfn)).symm
  refine ⟨by kernel_rfl, fun j t ht => ?_⟩
  rw [Tryd.params5] at ht
  simp at ht

theorem card : Rows.TxnNamesCardSaid :=
  Claim7.holds_tied_plain_at .later [] _ _ _ _ said (fun _ h => by cases h) (by kernel_rfl) (fun _ h => by cases h) txnNames_row_tie rfl ⟨rfl, rfl⟩ (by kernel_rfl) rfl plain (by kernel_rfl)
end Go.Proofs.YtmedbedpgbbdgaaDoor.txnNames
