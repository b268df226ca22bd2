/- A map from differences to bits, filled pair by pair: what it holds under a key. No program in sight. -/
import Derived.Test.YtjnfijnfjblbnaaGreatDoorCrcPlain
import Derived.Maps.Own
import Derived.Maps.OwnSet
import Derived.Maps.Views
namespace Go.Proofs.YtjnfijnfjblbnaaGreatDoor.Crc
open Go.Maps
set_option linter.unusedVariables false

/-- Pairs put into a map, one behind the other. -/
def putAll {H : Type} (l : List (Nat × Nat)) (D : DataW H) : DataW H := l.foldl (fun m p => m.put (.int .u32 p.1) (.lit (.int .i64 p.2))) D
/-- The second of the last pair whose first is d. -/
def last (l : List (Nat × Nat)) (d : Nat) : Option Nat := l.foldl (fun o p => if p.1 = d then some p.2 else o) none

theorem putAll_append {H : Type} (l m : List (Nat × Nat)) (D : DataW H) : putAll (l ++ m) D = putAll m (putAll l D) := by simp [putAll, List.foldl_append]
theorem putAll_one {H : Type} (l : List (Nat × Nat)) (a b : Nat) (D : DataW H) : putAll (l ++ [(a, b)]) D = (putAll l D).put (.int .u32 a) (.lit (.int .i64 b)) := by simp [putAll, List.foldl_append]
theorem isMap_putAll {H : Type} (l : List (Nat × Nat)) : ∀ D : DataW H, IsMap D → IsMap (putAll l D) := by
  induction l with
  | nil => intro D h; exact h
  | cons p l ih => intro D h; exact ih _ (h.put _ _)

theorem isKey (n : Int) : WideAt.IsKeyLit (.int .u32 n) := trivial
theorem key_ne {a b : Nat} (h : a ≠ b) : (Lit.int .u32 a) ≠ (Lit.int .u32 b) := fun e => h (by simp at e; omega)

theorem look_gen {H : Type} (l : List (Nat × Nat)) (d : Nat) : ∀ (D : DataW H) (o : Option Nat), IsMap D → Maps.has D (.int .u32 d) = o.isSome → (∀ z, D.atKey (.int .u32 d) z = match o with | some j => .lit (.int .i64 j) | none => z) →
    Maps.has (putAll l D) (.int .u32 d) = (l.foldl (fun o p => if p.1 = d then some p.2 else o) o).isSome ∧
    ∀ z, (putAll l D).atKey (.int .u32 d) z = match l.foldl (fun o p => if p.1 = d then some p.2 else o) o with | some j => .lit (.int .i64 j) | none => z := by
  induction l with
  | nil => intro D o hm h1 h2; exact ⟨h1, h2⟩
  | cons p l ih =>
    intro D o hm h1 h2
    simp only [putAll, List.foldl_cons]
    refine ih (D.put (.int .u32 p.1) (.lit (.int .i64 p.2))) (if p.1 = d then some p.2 else o) (hm.put _ _) ?_ ?_
    · by_cases e : p.1 = d
      · subst e
        rw [if_pos rfl, has_put_same hm (isKey _)]
        rfl
      · rw [if_neg e, has_put_other (key_ne (fun h => e h.symm)), h1]
    · intro z
      by_cases e : p.1 = d
      · subst e
        rw [if_pos rfl, atKey_put_same hm (isKey _)]
      · rw [if_neg e, atKey_put_other (key_ne (fun h => e h.symm)), h2]

theorem look {H : Type} (l : List (Nat × Nat)) (d : Nat) : Maps.has (putAll l (.map [] : DataW H)) (.int .u32 d) = (last l d).isSome ∧
    ∀ z, (putAll l (.map [] : DataW H)).atKey (.int .u32 d) z = match last l d with | some j => .lit (.int .i64 j) | none => z :=
  look_gen l d _ none isMap_empty rfl (fun z => rfl)

/-- What the k-th bit of a byte makes, c whole bytes ahead of the end. -/
def made (c k : Nat) : Nat := steps (8 * (c + 1)) (2 ^ k)
theorem made_succ (c k : Nat) : made (c + 1) k = steps 8 (made c k) := by
  unfold made
  rw [← steps_add, show 8 * (c + 1 + 1) = 8 * (c + 1) + 8 by omega]
theorem made_lt (c k : Nat) (hk : k < 8) : made c k < 4294967296 := steps_lt _ (by have : 2 ^ k < 2 ^ 8 := Nat.pow_lt_pow_right (by decide) hk; omega)
/-- The pairs of one byte of a text of n bytes: the c-th from the end. -/
def rowOf (n c k : Nat) : List (Nat × Nat) := (List.range k).map fun k => (made c k, 8 * (n - 1 - c) + k)
def rows (n : Nat) : Nat → List (Nat × Nat)
  | 0 => []
  | c + 1 => rows n c ++ rowOf n c 8
def tail (n k : Nat) : List (Nat × Nat) := (List.range k).map fun k => (2 ^ k, 8 * n + k)
theorem rowOf_succ (n c k : Nat) : rowOf n c (k + 1) = rowOf n c k ++ [(made c k, 8 * (n - 1 - c) + k)] := by simp [rowOf, List.range_succ]
theorem tail_succ (n k : Nat) : tail n (k + 1) = tail n k ++ [(2 ^ k, 8 * n + k)] := by simp [tail, List.range_succ]
def pairs (n : Nat) : List (Nat × Nat) := rows n n ++ tail n 32
end Go.Proofs.YtjnfijnfjblbnaaGreatDoor.Crc
