/- What a row's list of fixed errors gives: each is a pointer of its own to a text of errors.New's make. -/
import Derived.Test.YtmedbedpgbbdgaaDoorTxnIs
import Derived.Test.YtmedbedpgbbdgaaDoorLib
import Derived.Stop.LaidTwo
namespace Go.Proofs.YtmedbedpgbbdgaaDoor
open Go.RowKit
set_option linter.unusedVariables false

/-- The variable g holds the fixed error at a. -/
def Sent (W : World) (tp : TypeId) (g : Nat) (a : Addr) : Prop := W.cell? ⟨g, 0, none⟩ = some (.iface tp (.pointer (some a))) ∧ ∃ c t, W.heap[a.block]? = some (.cells c t (0, 0))

theorem laid_each {P : Program} {nm : String} {W : World} {ti tp te ts : TypeId} {ms : Array (String × TypeId)} {f : Field}
    (hi : P.underlying ti = some (.interface ms)) (hrow : ∀ u, P.typeName? 3 u = some nm → u = tp)
    (hp : P.underlying tp = some (.pointer te)) (he : P.underlying te = some (.struct #[f])) (hft : f.type = ts) (hfo : f.offset = 0) (hs : P.underlying ts = some .string) (hc : P.cellsOf te = 1) (hcs : P.cellsOf ts = 1) :
    ∀ (l : List (String × DataW Unit)) (gs : List Nat) (ps : List MemPlace), DataW.LaidVars P W l ps → (∀ x ∈ l, ∃ text, x.2 = .iface nm (.ptr (.agg [.lit (.string text)]))) → l.map (fun x => P.globalNamed x.1) = gs.map some → (∀ g ∈ gs, (P.globals[g]?).map (·.type) = some ti) →
      (∀ b off, MemPlace.cell b off ∈ ps → (∃ c t, W.heap[b]? = some (.cells c t (0, 0))) ∧ ∀ u v, W.cell? ⟨b, off, none⟩ = some (.iface u v) → Value.okWide P W .any 0 u v) → ps.Nodup →
      ∃ ad : List Addr, ad.length = gs.length ∧ ad.Nodup ∧ (∀ a ∈ ad, MemPlace.cell a.block a.off ∈ ps) ∧ ∀ (i g : Nat), gs[i]? = some g → ∃ a : Addr, ad[i]? = some a ∧ Sent W tp g a
  | [], gs, ps, h, _, hg, _, _, _ => by
    obtain rfl : gs = [] := by simpa using hg.symm
    exact ⟨[], rfl, List.nodup_nil, (fun a ha => by cases ha), fun i g hg => by simp at hg⟩
  | (n, d) :: l, [], ps, h, _, hg, _, _, _ => by simp at hg
  | (n, d) :: l, g :: gs, ps, h, hd, hg, hty, hrows, hnd => by
    obtain ⟨g', t', cs, fu, p, q, hg', ht', hv, hr, hrest, rfl⟩ := h
    simp only [List.map_cons, List.cons.injEq] at hg
    obtain ⟨hg0, hgs⟩ := hg
    obtain rfl := Option.some.inj (hg0.symm.trans hg')
    obtain rfl := Option.some.inj ((hty g (by simp)).symm.trans ht')
    obtain ⟨text, hdt⟩ := hd (n, d) (by simp)
    simp only at hdt
    subst hdt
    obtain ⟨l0⟩ := cs
    have ok0 : ∀ u v, l0 = [.iface u v] → Value.okWide P W .any 0 u v := fun u v e => by
      subst e
      exact (hrows g 0 (by simp [MemPlace.row])).2 u v (by simpa using World.var?_cell hg' hv 0)
    obtain ⟨a0, s0, rfl, hc0, hs0, hz0, rfl⟩ := errorString_of_trod hi hrow hp he hft hfo hs hc hcs hr ok0
    have hndq : q.Nodup := (List.nodup_append.1 hnd).2.1
    obtain ⟨ad, hlen, hasn, hasp, hase⟩ := laid_each hi hrow hp he hft hfo hs hc hcs l gs q hrest (fun x hx => hd x (by simp [hx])) hgs (fun x hx => hty x (by simp [hx])) (fun b off hb => hrows b off (by simp [hb])) hndq
    have hnot : a0 ∉ ad := by
      intro ha
      have h1 := hasp a0 ha
      have h2 := (List.nodup_append.1 hnd).2.2 (MemPlace.cell a0.block a0.off) (by simp [MemPlace.row]) (MemPlace.cell a0.block a0.off) h1
      exact h2 rfl
    refine ⟨a0 :: ad, by simp [hlen], List.nodup_cons.2 ⟨hnot, hasn⟩, ?_, ?_⟩
    · intro a ha
      rcases List.mem_cons.1 ha with rfl | ha
      · simp [MemPlace.row]
      · simp [hasp a ha]
    · intro i g' hi'
      cases i with
      | zero =>
        obtain rfl : g = g' := by simpa using hi'
        exact ⟨a0, rfl, by simpa using World.var?_cell hg' hv 0, (hrows a0.block a0.off (by simp [MemPlace.row])).1⟩
      | succ i =>
        obtain ⟨a, h1, h2⟩ := hase i g' (by simpa using hi')
        exact ⟨a, by simpa using h1, h2⟩
end Go.Proofs.YtmedbedpgbbdgaaDoor
