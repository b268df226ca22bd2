/- The plain law of the desk's frames: what a request's frame is, what bytes ask for; one undoes the other. No program in sight. -/
import Derived.Test.YtmedbedpgbbdgaaDoorDeskWalks3
namespace Go.Proofs.YtmedbedpgbbdgaaDoor
open Go.RowKit
set_option linter.unusedVariables false

structure Rq where
  op : Int
  ver : Int
  oth : Int
  lim : Int
  key : List UInt8
  high : List UInt8
  batch : List UInt8

/-- the frame of a request, or none -/
def encS (q : Rq) : Option (List UInt8) :=
  if q.op = 1 then (if 11999 < q.batch.length then none else some ([1] ++ q.batch))
  else if q.op = 2 then (if q.key.length = 32 then some ([2] ++ q.key ++ lowZ q.ver 8) else none)
  else if q.op = 3 then some ([3] ++ lowZ q.ver 8)
  else if q.op = 4 then (if q.key.length = 32 then some ([4] ++ q.key ++ lowZ q.ver 8) else none)
  else if q.op = 5 then (if q.key.length = 32 then (if q.high.length = 32 then some ([5] ++ q.key ++ q.high ++ lowZ q.ver 8) else none) else none)
  else if q.op = 6 then (if q.key.length = 32 then (if q.high.length = 32 then (if 0 ≤ q.lim ∧ q.lim ≤ 4294967295 then some ([6] ++ q.key ++ q.high ++ lowZ q.ver 8 ++ lowZ q.lim 4) else none) else none) else none)
  else if q.op = 7 then some ([7] ++ lowZ q.ver 8 ++ lowZ q.oth 8)
  else if q.op = 8 then some [8]
  else if q.op = 9 then some [9]
  else none

/-- what bytes ask for, or none -/
def decS : List UInt8 → Option Rq
  | [] => none
  | x :: l =>
    if 12000 < l.length + 1 then none
    else if x = 1 then some ⟨1, 0, 0, 0, [], [], l⟩
    else if x = 2 then (if l.length = 40 then some ⟨2, wrap64 (numLE ((l.drop 32).take 8)), 0, 0, l.take 32, [], []⟩ else none)
    else if x = 3 then (if l.length = 8 then some ⟨3, wrap64 (numLE (l.take 8)), 0, 0, [], [], []⟩ else none)
    else if x = 4 then (if l.length = 40 then some ⟨4, wrap64 (numLE ((l.drop 32).take 8)), 0, 0, l.take 32, [], []⟩ else none)
    else if x = 5 then (if l.length = 72 then some ⟨5, wrap64 (numLE ((l.drop 64).take 8)), 0, 0, l.take 32, (l.drop 32).take 32, []⟩ else none)
    else if x = 6 then (if l.length = 76 then some ⟨6, wrap64 (numLE ((l.drop 64).take 8)), 0, wrap64 (numLE ((l.drop 72).take 4)), l.take 32, (l.drop 32).take 32, []⟩ else none)
    else if x = 7 then (if l.length = 16 then some ⟨7, wrap64 (numLE (l.take 8)), wrap64 (numLE ((l.drop 8).take 8)), 0, [], [], []⟩ else none)
    else if x = 8 then (if l.length = 0 then some ⟨8, 0, 0, 0, [], [], []⟩ else none)
    else if x = 9 then (if l.length = 0 then some ⟨9, 0, 0, 0, [], [], []⟩ else none)
    else none

theorem lowZ_num (l : List UInt8) : lowZ (numLE l : Int) l.length = l := by
  induction l with
  | nil => rfl
  | cons b l ih =>
    have hb := b.toNat_lt
    have e1 : ((numLE (b :: l) : Nat) : Int) % 256 = (b.toNat : Int) := by simp only [numLE]; omega
    have e2 : ((numLE (b :: l) : Nat) : Int) / 256 = ((numLE l : Nat) : Int) := by simp only [numLE]; omega
    simp only [List.length_cons, lowZ, e1, e2, ih]
    simp

theorem lowZ_wrap8 (x : Int) : lowZ (wrap64 x) 8 = lowZ x 8 := by
  have h0 : wrap64 x % 256 = x % 256 := by unfold wrap64; omega
  have h1 : wrap64 x / 256 % 256 = x / 256 % 256 := by unfold wrap64; omega
  have h2 : wrap64 x / 256 / 256 % 256 = x / 256 / 256 % 256 := by unfold wrap64; omega
  have h3 : wrap64 x / 256 / 256 / 256 % 256 = x / 256 / 256 / 256 % 256 := by unfold wrap64; omega
  have h4 : wrap64 x / 256 / 256 / 256 / 256 % 256 = x / 256 / 256 / 256 / 256 % 256 := by unfold wrap64; omega
  have h5 : wrap64 x / 256 / 256 / 256 / 256 / 256 % 256 = x / 256 / 256 / 256 / 256 / 256 % 256 := by unfold wrap64; omega
  have h6 : wrap64 x / 256 / 256 / 256 / 256 / 256 / 256 % 256 = x / 256 / 256 / 256 / 256 / 256 / 256 % 256 := by unfold wrap64; omega
  have h7 : wrap64 x / 256 / 256 / 256 / 256 / 256 / 256 / 256 % 256 = x / 256 / 256 / 256 / 256 / 256 / 256 / 256 % 256 := by unfold wrap64; omega
  simp only [lowZ, h0, h1, h2, h3, h4, h5, h6, h7]

theorem lowZ_back (l : List UInt8) (h : l.length = 8) : lowZ (wrap64 (numLE l)) 8 = l := by
  rw [lowZ_wrap8]
  have := lowZ_num l
  rwa [h] at this

theorem num4 (l : List UInt8) (h : l.length = 4) : 0 ≤ wrap64 (numLE l) ∧ wrap64 (numLE l) ≤ 4294967295 ∧ lowZ (wrap64 (numLE l)) 4 = l := by
  have hl := numLE_lt l
  rw [h] at hl
  simp at hl
  have e : wrap64 (numLE l) = (numLE l : Int) := by unfold wrap64; omega
  rw [e]
  have := lowZ_num l
  rw [h] at this
  exact ⟨by omega, by omega, this⟩

/-- WHAT WAS LAID DOWN ASKS FOR SOMETHING. -/
theorem dec_enc (q : Rq) (L : List UInt8) (h : encS q = some L) : ∃ r, decS L = some r := by
  unfold encS at h
  repeat' split at h
  all_goals first | (cases h; done) | skip
  all_goals
    cases h
    simp [decS, lowZ_length, *]
  all_goals omega

theorem glue (l : List UInt8) (a b : Nat) (h : l.length = a + b) : l.take a ++ (l.drop a).take b = l := by
  have e : (l.drop a).take b = l.drop a := List.take_of_length_le (by rw [List.length_drop]; omega)
  rw [e, List.take_append_drop]

theorem glue3 (l : List UInt8) (a b c : Nat) (h : l.length = a + b + c) : l.take a ++ ((l.drop a).take b ++ (l.drop (a + b)).take c) = l := by
  have e : (l.drop a).take b ++ (l.drop (a + b)).take c = l.drop a := by
    have := glue (l.drop a) b c (by simp; omega)
    rwa [List.drop_drop] at this
  rw [e, List.take_append_drop]

theorem glue4 (l : List UInt8) (a b c d : Nat) (h : l.length = a + b + c + d) : l.take a ++ ((l.drop a).take b ++ ((l.drop (a + b)).take c ++ (l.drop (a + b + c)).take d)) = l := by
  have e : (l.drop (a + b)).take c ++ (l.drop (a + b + c)).take d = (l.drop (a + b)).take (c + d) := by
    have := glue (l.drop (a + b)) c d (by simp; omega)
    rw [List.drop_drop] at this
    rw [this, List.take_of_length_le (by rw [List.length_drop]; omega)]
  rw [e]
  exact glue3 l a b (c + d) (by omega)

/-- WHAT WAS READ IS LAID DOWN AGAIN, BYTE FOR BYTE. -/
theorem enc_dec (L : List UInt8) (q : Rq) (h : decS L = some q) : encS q = some L := by
  cases L with
  | nil => cases h
  | cons x l =>
    simp only [decS] at h
    by_cases hb : 12000 < l.length + 1
    · rw [if_pos hb] at h; cases h
    rw [if_neg hb] at h
    by_cases h1 : x = 1
    · rw [if_pos h1] at h
      cases h
      subst h1
      simp [encS]; omega
    rw [if_neg h1] at h
    clear h1
    by_cases h1 : x = 2
    · rw [if_pos h1] at h
      by_cases hl : l.length = 40
      · rw [if_pos hl] at h
        cases h
        subst h1
        have e := lowZ_back ((l.drop 32).take 8) (by simp; omega)
        have := glue l 32 8 (by omega)
        simp [encS, e, this, hl]
      · rw [if_neg hl] at h; cases h
    rw [if_neg h1] at h
    clear h1
    by_cases h1 : x = 3
    · rw [if_pos h1] at h
      by_cases hl : l.length = 8
      · rw [if_pos hl] at h
        cases h
        subst h1
        have e := lowZ_back (l.take 8) (by simp; omega)
        simp [encS, e]
        exact List.take_of_length_le (by omega)
      · rw [if_neg hl] at h; cases h
    rw [if_neg h1] at h
    clear h1
    by_cases h1 : x = 4
    · rw [if_pos h1] at h
      by_cases hl : l.length = 40
      · rw [if_pos hl] at h
        cases h
        subst h1
        have e := lowZ_back ((l.drop 32).take 8) (by simp; omega)
        have := glue l 32 8 (by omega)
        simp [encS, e, this, hl]
      · rw [if_neg hl] at h; cases h
    rw [if_neg h1] at h
    clear h1
    by_cases h1 : x = 5
    · rw [if_pos h1] at h
      by_cases hl : l.length = 72
      · rw [if_pos hl] at h
        cases h
        subst h1
        have e := lowZ_back ((l.drop 64).take 8) (by simp; omega)
        have := glue3 l 32 32 8 (by omega)
        simp [encS, e, this, hl]
      · rw [if_neg hl] at h; cases h
    rw [if_neg h1] at h
    clear h1
    by_cases h1 : x = 6
    · rw [if_pos h1] at h
      by_cases hl : l.length = 76
      · rw [if_pos hl] at h
        cases h
        subst h1
        have e := lowZ_back ((l.drop 64).take 8) (by simp; omega)
        obtain ⟨n1, n2, n3⟩ := num4 ((l.drop 72).take 4) (by simp; omega)
        have := glue4 l 32 32 8 4 (by omega)
        simp [encS, e, n1, n2, n3, this, hl]
      · rw [if_neg hl] at h; cases h
    rw [if_neg h1] at h
    clear h1
    by_cases h1 : x = 7
    · rw [if_pos h1] at h
      by_cases hl : l.length = 16
      · rw [if_pos hl] at h
        cases h
        subst h1
        have e := lowZ_back (l.take 8) (by simp; omega)
        have e2 := lowZ_back ((l.drop 8).take 8) (by simp; omega)
        have := glue l 8 8 (by omega)
        simp [encS, e, e2, this]
      · rw [if_neg hl] at h; cases h
    rw [if_neg h1] at h
    clear h1
    by_cases h1 : x = 8
    · rw [if_pos h1] at h
      by_cases hl : l.length = 0
      · rw [if_pos hl] at h
        cases h
        subst h1
        simp [encS, List.eq_nil_of_length_eq_zero hl]
      · rw [if_neg hl] at h; cases h
    rw [if_neg h1] at h
    clear h1
    by_cases h1 : x = 9
    · rw [if_pos h1] at h
      by_cases hl : l.length = 0
      · rw [if_pos hl] at h
        cases h
        subst h1
        simp [encS, List.eq_nil_of_length_eq_zero hl]
      · rw [if_neg hl] at h; cases h
    rw [if_neg h1] at h
    clear h1
    cases h
end Go.Proofs.YtmedbedpgbbdgaaDoor
