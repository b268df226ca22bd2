/- Plain numbers: a checksum's register, fed bit by bit; it is linear. No program in sight; no conditions beyond each law's own. -/
import Derived.KernelRfl
namespace Go.Proofs.YtjnfijnfjblbnaaGreatDoor.Crc

def poly : Nat := 3988292384
def step (r : Nat) : Nat := if r % 2 = 1 then (r / 2) ^^^ poly else r / 2
def steps : Nat → Nat → Nat
  | 0, r => r
  | n + 1, r => steps n (step r)

theorem xor_mod2 (a b : Nat) : (a ^^^ b) % 2 = (a % 2 + b % 2) % 2 := by
  have h := Nat.xor_mod_two_pow (a := a) (b := b) (n := 1)
  rw [Nat.pow_one] at h
  rw [h]
  rcases Nat.mod_two_eq_zero_or_one a with ha | ha <;> rcases Nat.mod_two_eq_zero_or_one b with hb | hb <;> rw [ha, hb] <;> rfl
theorem xor_div2 (a b : Nat) : (a ^^^ b) / 2 = a / 2 ^^^ b / 2 := by
  have h := Nat.xor_div_two_pow (a := a) (b := b) (n := 1)
  rwa [Nat.pow_one] at h

theorem step_xor (a b : Nat) : step (a ^^^ b) = step a ^^^ step b := by
  unfold step
  rw [xor_mod2, xor_div2]
  rcases Nat.mod_two_eq_zero_or_one a with ha | ha <;> rcases Nat.mod_two_eq_zero_or_one b with hb | hb <;> simp only [ha, hb] <;> simp
  · exact (Nat.xor_assoc _ _ _)
  · rw [Nat.xor_assoc, Nat.xor_assoc, Nat.xor_comm (b / 2) poly]
  · rw [Nat.xor_assoc, Nat.xor_comm poly, Nat.xor_assoc, Nat.xor_self, Nat.xor_zero]

theorem steps_xor (n : Nat) : ∀ a b, steps n (a ^^^ b) = steps n a ^^^ steps n b := by
  induction n with
  | zero => intro a b; rfl
  | succ n ih => intro a b; simp only [steps, step_xor, ih]

theorem steps_add (m n : Nat) : ∀ r, steps (m + n) r = steps n (steps m r) := by
  induction m with
  | zero => intro r; simp [steps]
  | succ m ih => intro r; rw [Nat.succ_add]; simp only [steps, ih]

theorem step_lt {r : Nat} (h : r < 4294967296) : step r < 4294967296 := by
  unfold step
  split
  · exact Nat.xor_lt_two_pow (n := 32) (by omega) (by decide)
  · omega
theorem steps_lt (n : Nat) : ∀ {r : Nat}, r < 4294967296 → steps n r < 4294967296 := by
  induction n with
  | zero => intro r h; exact h
  | succ n ih => intro r h; exact ih (step_lt h)

theorem step_zero : step 0 = 0 := rfl
theorem steps_zero (n : Nat) : steps n 0 = 0 := by
  induction n with
  | zero => rfl
  | succ n ih => simpa [steps, step_zero] using ih

/-- The table of half bytes. -/
def tbl : List Nat := [0, 498536548, 997073096, 651767980, 1994146192, 1802195444, 1303535960, 1342533948, 3988292384, 4027552580, 3604390888, 3412177804, 2607071920, 2262029012, 2685067896, 3183342108]

theorem xor_parts (r : Nat) : r = (16 * (r / 16)) ^^^ (r % 16) := by
  have h1 : ((16 * (r / 16)) ^^^ (r % 16)) / 16 = r / 16 := by
    have := Nat.xor_div_two_pow (a := 16 * (r / 16)) (b := r % 16) (n := 4)
    rw [show (2 : Nat) ^ 4 = 16 from rfl] at this
    rw [this, Nat.mul_div_cancel_left _ (by decide), Nat.div_eq_of_lt (Nat.mod_lt _ (by decide)), Nat.xor_zero]
  have h2 : ((16 * (r / 16)) ^^^ (r % 16)) % 16 = r % 16 := by
    have := Nat.xor_mod_two_pow (a := 16 * (r / 16)) (b := r % 16) (n := 4)
    rw [show (2 : Nat) ^ 4 = 16 from rfl] at this
    rw [this, Nat.mul_mod_right, Nat.zero_xor, Nat.mod_mod]
  omega

theorem step_even (q : Nat) : step (2 * q) = q := by unfold step; simp
theorem steps4_high (q : Nat) : steps 4 (16 * q) = q := by
  rw [show 16 * q = 2 * (2 * (2 * (2 * q))) by omega]
  simp only [steps, step_even]
theorem steps4_low : ∀ k, k < 16 → steps 4 k = tbl.getD k 0 := by decide
/-- Four steps by the table. -/
theorem nib (r : Nat) : tbl.getD (r % 16) 0 ^^^ r / 16 = steps 4 r := by
  conv => rhs; rw [xor_parts r]
  rw [steps_xor, steps4_high, steps4_low _ (Nat.mod_lt _ (by decide)), Nat.xor_comm]
theorem nib2 (r : Nat) : tbl.getD ((tbl.getD (r % 16) 0 ^^^ r / 16) % 16) 0 ^^^ (tbl.getD (r % 16) 0 ^^^ r / 16) / 16 = steps 8 r := by
  rw [nib r, nib (steps 4 r), ← steps_add]

/-- The register behind a text. -/
def feed (r : Nat) (l : List UInt8) : Nat := l.foldl (fun r x => steps 8 (r ^^^ x.toNat)) r
theorem feed_nil (r : Nat) : feed r [] = r := rfl
theorem feed_cons (r : Nat) (x : UInt8) (l : List UInt8) : feed r (x :: l) = feed (steps 8 (r ^^^ x.toNat)) l := rfl
theorem feed_append (r : Nat) (l m : List UInt8) : feed r (l ++ m) = feed (feed r l) m := by unfold feed; rw [List.foldl_append]
theorem byte_lt (x : UInt8) : x.toNat < 4294967296 := by have := x.toNat_lt; omega
theorem feed_lt (l : List UInt8) : ∀ {r : Nat}, r < 4294967296 → feed r l < 4294967296 := by
  induction l with
  | nil => intro r h; exact h
  | cons x l ih => intro r h; rw [feed_cons]; exact ih (steps_lt 8 (Nat.xor_lt_two_pow (n := 32) h (byte_lt x)))
theorem feed_take (r : Nat) (l : List UInt8) (k : Nat) (h : k < l.length) : feed r (l.take (k + 1)) = steps 8 (feed r (l.take k) ^^^ l[k].toNat) := by
  rw [List.take_succ_eq_append_getElem h, feed_append]
  rfl

/-- All bits turned. -/
def inv (r : Nat) : Nat := 4294967295 - r
theorem inv_xor {r : Nat} (h : r < 4294967296) : inv r = r ^^^ 4294967295 := by
  have h1 : BitVec.toNat (~~~ (BitVec.ofNat 32 r)) = inv r := by
    rw [BitVec.toNat_not, BitVec.toNat_ofNat, Nat.mod_eq_of_lt (by omega)]
    unfold inv
    omega
  rw [← h1, ← BitVec.xor_allOnes, BitVec.toNat_xor, BitVec.toNat_ofNat, Nat.mod_eq_of_lt (by omega), BitVec.toNat_allOnes]
theorem inv_lt (r : Nat) : inv r < 4294967296 := by unfold inv; omega
def update (c : Nat) (l : List UInt8) : Nat := inv (feed (inv c) l)
def sum (l : List UInt8) : Nat := update 0 l
theorem sum_lt (l : List UInt8) : sum l < 4294967296 := inv_lt _
end Go.Proofs.YtjnfijnfjblbnaaGreatDoor.Crc
