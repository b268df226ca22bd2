/- The walks of TxnNames: which fixed error a number means, which number an error means. -/
import Derived.Test.YtmedbedpgbbdgaaDoorTxnLaid
namespace Go.Proofs.YtmedbedpgbbdgaaDoor
open Go.RowKit
set_option linter.unusedVariables false

/-- Each fixed error's variable holds its own pointer. -/
structure Fixed (W : World) (a : Nat → Addr) : Prop where
  c3 : W.cell? ⟨3, 0, none⟩ = some (.iface 76 (.pointer (some (a 3))))
  c4 : W.cell? ⟨4, 0, none⟩ = some (.iface 76 (.pointer (some (a 4))))
  c5 : W.cell? ⟨5, 0, none⟩ = some (.iface 76 (.pointer (some (a 5))))
  c6 : W.cell? ⟨6, 0, none⟩ = some (.iface 76 (.pointer (some (a 6))))
  c7 : W.cell? ⟨7, 0, none⟩ = some (.iface 76 (.pointer (some (a 7))))
  c8 : W.cell? ⟨8, 0, none⟩ = some (.iface 76 (.pointer (some (a 8))))
  c9 : W.cell? ⟨9, 0, none⟩ = some (.iface 76 (.pointer (some (a 9))))
  c10 : W.cell? ⟨10, 0, none⟩ = some (.iface 76 (.pointer (some (a 10))))
  c11 : W.cell? ⟨11, 0, none⟩ = some (.iface 76 (.pointer (some (a 11))))
  c12 : W.cell? ⟨12, 0, none⟩ = some (.iface 76 (.pointer (some (a 12))))
  c13 : W.cell? ⟨13, 0, none⟩ = some (.iface 76 (.pointer (some (a 13))))
  c14 : W.cell? ⟨14, 0, none⟩ = some (.iface 76 (.pointer (some (a 14))))
  c15 : W.cell? ⟨15, 0, none⟩ = some (.iface 76 (.pointer (some (a 15))))
  c16 : W.cell? ⟨16, 0, none⟩ = some (.iface 76 (.pointer (some (a 16))))
  c17 : W.cell? ⟨17, 0, none⟩ = some (.iface 76 (.pointer (some (a 17))))
  c0 : W.cell? ⟨0, 0, none⟩ = some (.iface 76 (.pointer (some (a 0))))
  c1 : W.cell? ⟨1, 0, none⟩ = some (.iface 76 (.pointer (some (a 1))))
  c18 : W.cell? ⟨18, 0, none⟩ = some (.iface 76 (.pointer (some (a 18))))
  c19 : W.cell? ⟨19, 0, none⟩ = some (.iface 76 (.pointer (some (a 19))))
  c20 : W.cell? ⟨20, 0, none⟩ = some (.iface 76 (.pointer (some (a 20))))
  rows : ∀ g, g < 21 → g ≠ 2 → ∃ c t, W.heap[(a g).block]? = some (.cells c t (0, 0))
  apart : ∀ g h, g < 21 → h < 21 → g ≠ 2 → h ≠ 2 → g ≠ h → a g ≠ a h

/-- The variable of a number. -/
def varOf (k : Int) : Option Nat :=
  if k = 1 then some 3 else if k = 2 then some 4 else if k = 3 then some 5 else if k = 4 then some 6 else if k = 5 then some 7 else if k = 30 then some 8 else if k = 31 then some 9 else if k = 32 then some 10 else if k = 33 then some 11 else if k = 55 then some 12 else if k = 60 then some 13 else if k = 110 then some 14 else if k = 151 then some 15 else if k = 152 then some 16 else if k = 160 then some 17 else if k = 180 then some 0 else if k = 181 then some 1 else if k = 190 then some 18 else if k = 191 then some 19 else if k = 192 then some 20 else none

def errOf (a : Nat → Addr) (k : Int) : Value := match varOf k with | some g => .iface 76 (.pointer (some (a g))) | none => .nilIface

set_option maxHeartbeats 4000000 in
theorem reason_spec (a : Nat → Addr) (k : Int) (W : World) (hF : Fixed W a) :
    Calls Tryd.prog 24 #[.int .i64 k] W fun e w' => e = .returned (errOf a k) ∧ w' = W := by
  obtain ⟨c3, c4, c5, c6, c7, c8, c9, c10, c11, c12, c13, c14, c15, c16, c17, c0, c1, c18, c19, c20, _, _⟩ := hF
  rcases Classical.em (varOf k = none) with hn | hs
  · have he : errOf a k = .nilIface := by unfold errOf; rw [hn]
    rw [he]
    clear he
    have hk : k ≠ 1 ∧ k ≠ 2 ∧ k ≠ 3 ∧ k ≠ 4 ∧ k ≠ 5 ∧ k ≠ 30 ∧ k ≠ 31 ∧ k ≠ 32 ∧ k ≠ 33 ∧ k ≠ 55 ∧ k ≠ 60 ∧ k ≠ 110 ∧ k ≠ 151 ∧ k ≠ 152 ∧ k ≠ 160 ∧ k ≠ 180 ∧ k ≠ 181 ∧ k ≠ 190 ∧ k ≠ 191 ∧ k ≠ 192 := by
      unfold varOf at hn
      refine ⟨?_, ?_, ?_, ?_, ?_, ?_, ?_, ?_, ?_, ?_, ?_, ?_, ?_, ?_, ?_, ?_, ?_, ?_, ?_, ?_⟩ <;> (rintro rfl; simp at hn)
    obtain ⟨n1, n2, n3, n4, n5, n30, n31, n32, n33, n55, n60, n110, n151, n152, n160, n180, n181, n190, n191, n192⟩ := hk
    clear hn
    go_enter Tryd.func24, Tryd.ntmps24
    go_wp2
    go_ret
    exact ⟨rfl, rfl⟩
  · have hk : k = 1 ∨ k = 2 ∨ k = 3 ∨ k = 4 ∨ k = 5 ∨ k = 30 ∨ k = 31 ∨ k = 32 ∨ k = 33 ∨ k = 55 ∨ k = 60 ∨ k = 110 ∨ k = 151 ∨ k = 152 ∨ k = 160 ∨ k = 180 ∨ k = 181 ∨ k = 190 ∨ k = 191 ∨ k = 192 := by
      apply Classical.byContradiction
      intro hno
      simp only [not_or] at hno
      apply hs
      unfold varOf
      simp [hno]
    clear hs
    rcases hk with rfl | rfl | rfl | rfl | rfl | rfl | rfl | rfl | rfl | rfl | rfl | rfl | rfl | rfl | rfl | rfl | rfl | rfl | rfl | rfl
    all_goals (go_enter Tryd.func24, Tryd.ntmps24; go_wp2; go_ret; exact ⟨rfl, rfl⟩)

set_option maxHeartbeats 4000000 in
theorem code_spec (a : Nat → Addr) (t : Nat) (m : Nat) (hm : varOf m = some t) (hlow : ∀ k : Nat, k < m → varOf k ≠ some t) (h1 : 1 ≤ m) (h2 : m ≤ 192) (ht : t < 21) (ht2 : t ≠ 2) (hvar : ∀ (k : Int) g, varOf k = some g → g < 21 ∧ g ≠ 2) (W : World) (hF : Fixed W a) :
    Calls Tryd.prog 14 #[.iface 76 (.pointer (some (a t)))] W fun e w' => e = .returned (.int .i64 m) ∧ w' = W := by
  go_enter Tryd.func14, Tryd.ntmps14
  go_wp2
  go_loop [3] (fun i => ∃ k : Nat, 1 ≤ k ∧ k ≤ m ∧ i = .int .i64 k) (fun i => 193 - (intOf i).toNat)
  case atStart => exact ⟨1, by omega, by omega, rfl⟩
  case round =>
    obtain ⟨k, hk1, hk2, rfl⟩ := hrel
    have hle : decide ((k : Int) ≤ 192) = true := by simp; omega
    have hle' : (k : Int) ≤ 192 := by omega
    have R := reason_spec a k W hF
    rcases hv : varOf k with _ | g
    · have he : errOf a k = .nilIface := by unfold errOf; rw [hv]
      rw [he] at R
      have hkm : k < m := by
        rcases Nat.lt_or_ge k m with h | h
        · exact h
        · obtain rfl : k = m := by omega
          rw [hm] at hv; cases hv
      clear hv he
      go_wp2_with (go_at_call 24; refine R.mono ?_; rintro e w' ⟨rfl, rfl⟩)
      exact ⟨⟨k + 1, by omega, by omega, by go_num⟩, by simp [intOf]; omega⟩
    · have he : errOf a k = .iface 76 (.pointer (some (a g))) := by unfold errOf; rw [hv]
      rw [he] at R
      obtain ⟨g1, g2⟩ := hvar k g hv
      rcases Nat.lt_or_ge k m with hkm | hkm
      · have hne : t ≠ g := by
          rintro rfl
          exact hlow k hkm hv
        have hna := hF.apart t g ht g1 ht2 g2 hne
        obtain ⟨ct, tt, rt⟩ := hF.rows t ht ht2
        obtain ⟨cg, tg, rg⟩ := hF.rows g g1 g2
        have S := is_other (a t) (a g) ct cg tt tg W hna rt rg
        clear hv he hna rt rg
        go_wp2_with (first | (go_at_call 24; refine R.mono ?_; rintro e w' ⟨rfl, rfl⟩) | go_skip | (go_at_call 25; refine S.mono ?_; rintro e w' ⟨rfl, rfl⟩))
        exact ⟨⟨k + 1, by omega, by omega, by go_num⟩, by simp [intOf]; omega⟩
      · obtain rfl : k = m := by omega
        obtain rfl : t = g := by rw [hm] at hv; exact Option.some.inj hv
        have S := is_same (a t) W
        clear hv he
        go_wp2_with (first | (go_at_call 24; refine R.mono ?_; rintro e w' ⟨rfl, rfl⟩) | go_skip | (go_at_call 25; refine S.mono ?_; rintro e w' ⟨rfl, rfl⟩))
        go_ret
        exact ⟨rfl, rfl⟩

/-- The number of a variable. -/
def numOf (g : Nat) : Int :=
  if g = 3 then 1 else if g = 4 then 2 else if g = 5 then 3 else if g = 6 then 4 else if g = 7 then 5 else if g = 8 then 30 else if g = 9 then 31 else if g = 10 then 32 else if g = 11 then 33 else if g = 12 then 55 else if g = 13 then 60 else if g = 14 then 110 else if g = 15 then 151 else if g = 16 then 152 else if g = 17 then 160 else if g = 0 then 180 else if g = 1 then 181 else if g = 18 then 190 else if g = 19 then 191 else if g = 20 then 192 else 0

theorem var_lt (k : Int) (g : Nat) (h : varOf k = some g) : g < 21 ∧ g ≠ 2 ∧ k = numOf g := by
  unfold varOf at h
  by_cases e : k = 1
  · rw [if_pos e] at h; cases h; exact ⟨by decide, by decide, by rw [e]; rfl⟩
  rw [if_neg e] at h
  clear e
  by_cases e : k = 2
  · rw [if_pos e] at h; cases h; exact ⟨by decide, by decide, by rw [e]; rfl⟩
  rw [if_neg e] at h
  clear e
  by_cases e : k = 3
  · rw [if_pos e] at h; cases h; exact ⟨by decide, by decide, by rw [e]; rfl⟩
  rw [if_neg e] at h
  clear e
  by_cases e : k = 4
  · rw [if_pos e] at h; cases h; exact ⟨by decide, by decide, by rw [e]; rfl⟩
  rw [if_neg e] at h
  clear e
  by_cases e : k = 5
  · rw [if_pos e] at h; cases h; exact ⟨by decide, by decide, by rw [e]; rfl⟩
  rw [if_neg e] at h
  clear e
  by_cases e : k = 30
  · rw [if_pos e] at h; cases h; exact ⟨by decide, by decide, by rw [e]; rfl⟩
  rw [if_neg e] at h
  clear e
  by_cases e : k = 31
  · rw [if_pos e] at h; cases h; exact ⟨by decide, by decide, by rw [e]; rfl⟩
  rw [if_neg e] at h
  clear e
  by_cases e : k = 32
  · rw [if_pos e] at h; cases h; exact ⟨by decide, by decide, by rw [e]; rfl⟩
  rw [if_neg e] at h
  clear e
  by_cases e : k = 33
  · rw [if_pos e] at h; cases h; exact ⟨by decide, by decide, by rw [e]; rfl⟩
  rw [if_neg e] at h
  clear e
  by_cases e : k = 55
  · rw [if_pos e] at h; cases h; exact ⟨by decide, by decide, by rw [e]; rfl⟩
  rw [if_neg e] at h
  clear e
  by_cases e : k = 60
  · rw [if_pos e] at h; cases h; exact ⟨by decide, by decide, by rw [e]; rfl⟩
  rw [if_neg e] at h
  clear e
  by_cases e : k = 110
  · rw [if_pos e] at h; cases h; exact ⟨by decide, by decide, by rw [e]; rfl⟩
  rw [if_neg e] at h
  clear e
  by_cases e : k = 151
  · rw [if_pos e] at h; cases h; exact ⟨by decide, by decide, by rw [e]; rfl⟩
  rw [if_neg e] at h
  clear e
  by_cases e : k = 152
  · rw [if_pos e] at h; cases h; exact ⟨by decide, by decide, by rw [e]; rfl⟩
  rw [if_neg e] at h
  clear e
  by_cases e : k = 160
  · rw [if_pos e] at h; cases h; exact ⟨by decide, by decide, by rw [e]; rfl⟩
  rw [if_neg e] at h
  clear e
  by_cases e : k = 180
  · rw [if_pos e] at h; cases h; exact ⟨by decide, by decide, by rw [e]; rfl⟩
  rw [if_neg e] at h
  clear e
  by_cases e : k = 181
  · rw [if_pos e] at h; cases h; exact ⟨by decide, by decide, by rw [e]; rfl⟩
  rw [if_neg e] at h
  clear e
  by_cases e : k = 190
  · rw [if_pos e] at h; cases h; exact ⟨by decide, by decide, by rw [e]; rfl⟩
  rw [if_neg e] at h
  clear e
  by_cases e : k = 191
  · rw [if_pos e] at h; cases h; exact ⟨by decide, by decide, by rw [e]; rfl⟩
  rw [if_neg e] at h
  clear e
  by_cases e : k = 192
  · rw [if_pos e] at h; cases h; exact ⟨by decide, by decide, by rw [e]; rfl⟩
  rw [if_neg e] at h
  clear e
  cases h

theorem code_180 (a : Nat → Addr) (W : World) (hF : Fixed W a) : Calls Tryd.prog 14 #[.iface 76 (.pointer (some (a 0)))] W fun e w' => e = .returned (.int .i64 180) ∧ w' = W :=
  code_spec a 0 180 (by simp [varOf]) (fun k hk h => by have := (var_lt k 0 h).2.2; simp [numOf] at this; omega) (by decide) (by decide) (by decide) (by decide) (fun k g h => ⟨(var_lt k g h).1, (var_lt k g h).2.1⟩) W hF
theorem code_181 (a : Nat → Addr) (W : World) (hF : Fixed W a) : Calls Tryd.prog 14 #[.iface 76 (.pointer (some (a 1)))] W fun e w' => e = .returned (.int .i64 181) ∧ w' = W :=
  code_spec a 1 181 (by simp [varOf]) (fun k hk h => by have := (var_lt k 1 h).2.2; simp [numOf] at this; omega) (by decide) (by decide) (by decide) (by decide) (fun k g h => ⟨(var_lt k g h).1, (var_lt k g h).2.1⟩) W hF
end Go.Proofs.YtmedbedpgbbdgaaDoor
