/- Walks: EncodeRequest and the document's Request, all kinds together. Printed by gen_desk.py. -/
import Derived.Test.YtmedbedpgbbdgaaDoorDeskEnc
import Derived.Test.YtmedbedpgbbdgaaDoorDeskEncNo
import Derived.Test.YtmedbedpgbbdgaaDoorDeskReq
import Derived.Test.YtmedbedpgbbdgaaDoorDeskReqNo
import Derived.Test.YtmedbedpgbbdgaaDoorDeskPlain
namespace Go.Proofs.YtmedbedpgbbdgaaDoor
open Go.RowKit
set_option linter.unusedVariables false

/-- the table of shapes, as cells -/
def shapeCells : List Value := [.bool false, .bool false, .bool false, .bool false, .bool false, .bool false, .bool true, .bool false, .bool false, .bool false, .bool false, .bool false, .bool false, .bool true, .bool false, .bool true, .bool false, .bool false, .bool false, .bool false, .bool false, .bool true, .bool false, .bool false, .bool false, .bool true, .bool false, .bool true, .bool false, .bool false, .bool false, .bool true, .bool true, .bool true, .bool false, .bool false, .bool false, .bool true, .bool true, .bool true, .bool false, .bool true, .bool false, .bool false, .bool false, .bool true, .bool true, .bool false, .bool false, .bool false, .bool false, .bool false, .bool false, .bool false, .bool false, .bool false, .bool false, .bool false, .bool false, .bool false]

theorem cells_sub {w : World} {b : Nat} {xs : List Value} (h : Cells w b 0 xs) (k n : Nat) : Cells w b k ((xs.drop k).take n) := by
  intro j v hj
  rw [List.getElem?_take] at hj
  split at hj
  · have := h.drop k j v hj
    rwa [Nat.zero_add] at this
  · cases hj

theorem encS_unknown (q : Rq) (h : q.op < 1 ∨ 9 < q.op) : encS q = none := by
  unfold encS
  rw [if_neg (by omega), if_neg (by omega), if_neg (by omega), if_neg (by omega), if_neg (by omega), if_neg (by omega), if_neg (by omega), if_neg (by omega), if_neg (by omega)]

set_option maxHeartbeats 1000000 in
theorem enc_all (op ver oth lim : Int) (pk ph pb : Option Addr) (nk ck nh ch nb cb : Nat) (key high batch : List UInt8) (w : World)
    (hk : View w (.slice pk nk ck) nk 1 (bv key)) (lk : key.length = nk) (hh : View w (.slice ph nh ch) nh 1 (bv high)) (lh : high.length = nh) (hb : View w (.slice pb nb cb) nb 1 (bv batch)) (lb : batch.length = nb) (hg : 2 < w.heap.size) (hs : Cells w 2 0 shapeCells) :
    Calls Tryd.prog 7 #[.agg #[.int .i64 op, .int .i64 ver, .int .i64 oth, .int .i64 lim, .slice pk nk ck, .slice ph nh ch, .slice pb nb cb]] w fun e w' => (encS ⟨op, ver, oth, lim, key, high, batch⟩ = none ∧ e = .returned (.tuple #[.slice none 0 0, .int .i64 200]) ∧ Below w.heap.size w w') ∨
      (∃ L p c, encS ⟨op, ver, oth, lim, key, high, batch⟩ = some L ∧ e = .returned (.tuple #[.slice p L.length c, .int .i64 0]) ∧ w'.ownsRow w.heap.size 5 1 (.slice p L.length c) L.length (bv L) ∧ Below w.heap.size w w') := by
  obtain h | h | h | h | h | h | h | h | h | h : (op < 1 ∨ 9 < op) ∨ op = 1 ∨ op = 2 ∨ op = 3 ∨ op = 4 ∨ op = 5 ∨ op = 6 ∨ op = 7 ∨ op = 8 ∨ op = 9 := by omega
  · refine (enc_no op ver oth lim pk ph pb nk ck nh ch nb cb w h).mono ?_
    rintro e w' ⟨rfl, hw⟩
    exact .inl ⟨encS_unknown _ h, rfl, hw⟩
  · subst h
    by_cases qb : 11999 < nb
    · refine (enc_no_1 ver oth lim pk ph pb nk ck nh ch nb cb w qb hg (cells_sub hs 6 6)).mono ?_
      rintro e w' ⟨rfl, hw⟩
      exact .inl ⟨by simp [encS, *], rfl, hw⟩
    refine (enc_ok_1 ver oth lim pk ph pb nk ck nh ch nb cb key high batch w hb (by omega) hg (cells_sub hs 6 6)).mono ?_
    rintro e w' ⟨p, n, c, rfl, ho, hw⟩
    rw [List.take_of_length_le (by omega)] at ho
    obtain rfl := own_bytes ho
    exact .inr ⟨_, p, c, by simp [encS, *] <;> omega, rfl, ho, hw⟩
  · subst h
    by_cases qk : nk ≠ 32
    · refine (enc_no_2k ver oth lim pk ph pb nk ck nh ch nb cb w qk hg (cells_sub hs 12 6)).mono ?_
      rintro e w' ⟨rfl, hw⟩
      exact .inl ⟨by simp [encS, *], rfl, hw⟩
    have qk0 : nk = 32 := by omega
    refine (enc_ok_2 ver oth lim pk ph pb nk ck nh ch nb cb key high batch w hk qk0 hg (cells_sub hs 12 6)).mono ?_
    rintro e w' ⟨p, n, c, rfl, ho, hw⟩
    rw [show key.take 32 = key from List.take_of_length_le (by omega)] at ho
    obtain rfl := own_bytes ho
    exact .inr ⟨_, p, c, by simp [encS, *], rfl, ho, hw⟩
  · subst h
    refine (enc_ok_3 ver oth lim pk ph pb nk ck nh ch nb cb key high batch w hg (cells_sub hs 18 6)).mono ?_
    rintro e w' ⟨p, n, c, rfl, ho, hw⟩
    obtain rfl := own_bytes ho
    exact .inr ⟨_, p, c, by simp [encS, *], rfl, ho, hw⟩
  · subst h
    by_cases qk : nk ≠ 32
    · refine (enc_no_4k ver oth lim pk ph pb nk ck nh ch nb cb w qk hg (cells_sub hs 24 6)).mono ?_
      rintro e w' ⟨rfl, hw⟩
      exact .inl ⟨by simp [encS, *], rfl, hw⟩
    have qk0 : nk = 32 := by omega
    refine (enc_ok_4 ver oth lim pk ph pb nk ck nh ch nb cb key high batch w hk qk0 hg (cells_sub hs 24 6)).mono ?_
    rintro e w' ⟨p, n, c, rfl, ho, hw⟩
    rw [show key.take 32 = key from List.take_of_length_le (by omega)] at ho
    obtain rfl := own_bytes ho
    exact .inr ⟨_, p, c, by simp [encS, *], rfl, ho, hw⟩
  · subst h
    by_cases qk : nk ≠ 32
    · refine (enc_no_5k ver oth lim pk ph pb nk ck nh ch nb cb w qk hg (cells_sub hs 30 6)).mono ?_
      rintro e w' ⟨rfl, hw⟩
      exact .inl ⟨by simp [encS, *], rfl, hw⟩
    have qk0 : nk = 32 := by omega
    by_cases qh : nh ≠ 32
    · refine (enc_no_5h ver oth lim pk ph pb nk ck nh ch nb cb w qh qk0 hg (cells_sub hs 30 6)).mono ?_
      rintro e w' ⟨rfl, hw⟩
      exact .inl ⟨by simp [encS, *], rfl, hw⟩
    have qh0 : nh = 32 := by omega
    refine (enc_ok_5 ver oth lim pk ph pb nk ck nh ch nb cb key high batch w hk qk0 hh qh0 hg (cells_sub hs 30 6)).mono ?_
    rintro e w' ⟨p, n, c, rfl, ho, hw⟩
    rw [show key.take 32 = key from List.take_of_length_le (by omega)] at ho
    rw [show high.take 32 = high from List.take_of_length_le (by omega)] at ho
    obtain rfl := own_bytes ho
    exact .inr ⟨_, p, c, by simp [encS, *], rfl, ho, hw⟩
  · subst h
    by_cases qk : nk ≠ 32
    · refine (enc_no_6k ver oth lim pk ph pb nk ck nh ch nb cb w qk hg (cells_sub hs 36 6)).mono ?_
      rintro e w' ⟨rfl, hw⟩
      exact .inl ⟨by simp [encS, *], rfl, hw⟩
    have qk0 : nk = 32 := by omega
    by_cases qh : nh ≠ 32
    · refine (enc_no_6h ver oth lim pk ph pb nk ck nh ch nb cb w qh qk0 hg (cells_sub hs 36 6)).mono ?_
      rintro e w' ⟨rfl, hw⟩
      exact .inl ⟨by simp [encS, *], rfl, hw⟩
    have qh0 : nh = 32 := by omega
    by_cases ql : lim < 0
    · refine (enc_no_6l ver oth lim pk ph pb nk ck nh ch nb cb w ql qk0 qh0 hg (cells_sub hs 36 6)).mono ?_
      rintro e w' ⟨rfl, hw⟩
      exact .inl ⟨by simp [encS, *] <;> omega, rfl, hw⟩
    by_cases qm : 4294967295 < lim
    · refine (enc_no_6m ver oth lim pk ph pb nk ck nh ch nb cb w qm qk0 qh0 hg (cells_sub hs 36 6)).mono ?_
      rintro e w' ⟨rfl, hw⟩
      exact .inl ⟨by simp [encS, *] <;> omega, rfl, hw⟩
    refine (enc_ok_6 ver oth lim pk ph pb nk ck nh ch nb cb key high batch w hk qk0 hh qh0 (by omega) (by omega) hg (cells_sub hs 36 6)).mono ?_
    rintro e w' ⟨p, n, c, rfl, ho, hw⟩
    rw [show key.take 32 = key from List.take_of_length_le (by omega)] at ho
    rw [show high.take 32 = high from List.take_of_length_le (by omega)] at ho
    obtain rfl := own_bytes ho
    have ql0 : 0 ≤ lim ∧ lim ≤ 4294967295 := by omega
    exact .inr ⟨_, p, c, by simp [encS, *], rfl, ho, hw⟩
  · subst h
    refine (enc_ok_7 ver oth lim pk ph pb nk ck nh ch nb cb key high batch w hg (cells_sub hs 42 6)).mono ?_
    rintro e w' ⟨p, n, c, rfl, ho, hw⟩
    obtain rfl := own_bytes ho
    exact .inr ⟨_, p, c, by simp [encS, *], rfl, ho, hw⟩
  · subst h
    refine (enc_ok_8 ver oth lim pk ph pb nk ck nh ch nb cb key high batch w hg (cells_sub hs 48 6)).mono ?_
    rintro e w' ⟨p, n, c, rfl, ho, hw⟩
    obtain rfl := own_bytes ho
    exact .inr ⟨_, p, c, by simp [encS, *], rfl, ho, hw⟩
  · subst h
    refine (enc_ok_9 ver oth lim pk ph pb nk ck nh ch nb cb key high batch w hg (cells_sub hs 54 6)).mono ?_
    rintro e w' ⟨p, n, c, rfl, ho, hw⟩
    obtain rfl := own_bytes ho
    exact .inr ⟨_, p, c, by simp [encS, *], rfl, ho, hw⟩

set_option maxHeartbeats 1000000 in
theorem req_all (op ver oth lim : Int) (pk ph pb : Option Addr) (nk ck nh ch nb cb : Nat) (key high batch : List UInt8) (w : World)
    (hk : View w (.slice pk nk ck) nk 1 (bv key)) (lk : key.length = nk) (hh : View w (.slice ph nh ch) nh 1 (bv high)) (lh : high.length = nh) (hb : View w (.slice pb nb cb) nb 1 (bv batch)) (lb : batch.length = nb) :
    Calls Tryd.prog 8 #[.agg #[.int .i64 op, .int .i64 ver, .int .i64 oth, .int .i64 lim, .slice pk nk ck, .slice ph nh ch, .slice pb nb cb]] w fun e w' => (encS ⟨op, ver, oth, lim, key, high, batch⟩ = none ∧ e = .returned (.tuple #[.slice none 0 0, .int .i64 200]) ∧ Below w.heap.size w w') ∨
      (∃ L p c, encS ⟨op, ver, oth, lim, key, high, batch⟩ = some L ∧ e = .returned (.tuple #[.slice p L.length c, .int .i64 0]) ∧ w'.ownsRow w.heap.size 5 1 (.slice p L.length c) L.length (bv L) ∧ Below w.heap.size w w') := by
  obtain h | h | h | h | h | h | h | h | h | h : (op < 1 ∨ 9 < op) ∨ op = 1 ∨ op = 2 ∨ op = 3 ∨ op = 4 ∨ op = 5 ∨ op = 6 ∨ op = 7 ∨ op = 8 ∨ op = 9 := by omega
  · refine (req_no op ver oth lim pk ph pb nk ck nh ch nb cb w h).mono ?_
    rintro e w' ⟨rfl, hw⟩
    exact .inl ⟨encS_unknown _ h, rfl, hw⟩
  · subst h
    by_cases qb : 11999 < nb
    · refine (req_no_1 ver oth lim pk ph pb nk ck nh ch nb cb w qb).mono ?_
      rintro e w' ⟨rfl, hw⟩
      exact .inl ⟨by simp [encS, *], rfl, hw⟩
    refine (req_ok_1 ver oth lim pk ph pb nk ck nh ch nb cb key high batch w hb (by omega)).mono ?_
    rintro e w' ⟨p, n, c, rfl, ho, hw⟩
    rw [List.take_of_length_le (by omega)] at ho
    obtain rfl := own_bytes ho
    exact .inr ⟨_, p, c, by simp [encS, *] <;> omega, rfl, ho, hw⟩
  · subst h
    by_cases qk : nk ≠ 32
    · refine (req_no_2k ver oth lim pk ph pb nk ck nh ch nb cb w qk).mono ?_
      rintro e w' ⟨rfl, hw⟩
      exact .inl ⟨by simp [encS, *], rfl, hw⟩
    have qk0 : nk = 32 := by omega
    refine (req_ok_2 ver oth lim pk ph pb nk ck nh ch nb cb key high batch w hk qk0).mono ?_
    rintro e w' ⟨p, n, c, rfl, ho, hw⟩
    rw [show key.take 32 = key from List.take_of_length_le (by omega)] at ho
    obtain rfl := own_bytes ho
    exact .inr ⟨_, p, c, by simp [encS, *], rfl, ho, hw⟩
  · subst h
    refine (req_ok_3 ver oth lim pk ph pb nk ck nh ch nb cb key high batch w).mono ?_
    rintro e w' ⟨p, n, c, rfl, ho, hw⟩
    obtain rfl := own_bytes ho
    exact .inr ⟨_, p, c, by simp [encS, *], rfl, ho, hw⟩
  · subst h
    by_cases qk : nk ≠ 32
    · refine (req_no_4k ver oth lim pk ph pb nk ck nh ch nb cb w qk).mono ?_
      rintro e w' ⟨rfl, hw⟩
      exact .inl ⟨by simp [encS, *], rfl, hw⟩
    have qk0 : nk = 32 := by omega
    refine (req_ok_4 ver oth lim pk ph pb nk ck nh ch nb cb key high batch w hk qk0).mono ?_
    rintro e w' ⟨p, n, c, rfl, ho, hw⟩
    rw [show key.take 32 = key from List.take_of_length_le (by omega)] at ho
    obtain rfl := own_bytes ho
    exact .inr ⟨_, p, c, by simp [encS, *], rfl, ho, hw⟩
  · subst h
    by_cases qk : nk ≠ 32
    · refine (req_no_5k ver oth lim pk ph pb nk ck nh ch nb cb w qk).mono ?_
      rintro e w' ⟨rfl, hw⟩
      exact .inl ⟨by simp [encS, *], rfl, hw⟩
    have qk0 : nk = 32 := by omega
    by_cases qh : nh ≠ 32
    · refine (req_no_5h ver oth lim pk ph pb nk ck nh ch nb cb w qh qk0).mono ?_
      rintro e w' ⟨rfl, hw⟩
      exact .inl ⟨by simp [encS, *], rfl, hw⟩
    have qh0 : nh = 32 := by omega
    refine (req_ok_5 ver oth lim pk ph pb nk ck nh ch nb cb key high batch w hk qk0 hh qh0).mono ?_
    rintro e w' ⟨p, n, c, rfl, ho, hw⟩
    rw [show key.take 32 = key from List.take_of_length_le (by omega)] at ho
    rw [show high.take 32 = high from List.take_of_length_le (by omega)] at ho
    obtain rfl := own_bytes ho
    exact .inr ⟨_, p, c, by simp [encS, *], rfl, ho, hw⟩
  · subst h
    by_cases qk : nk ≠ 32
    · refine (req_no_6k ver oth lim pk ph pb nk ck nh ch nb cb w qk).mono ?_
      rintro e w' ⟨rfl, hw⟩
      exact .inl ⟨by simp [encS, *], rfl, hw⟩
    have qk0 : nk = 32 := by omega
    by_cases qh : nh ≠ 32
    · refine (req_no_6h ver oth lim pk ph pb nk ck nh ch nb cb w qh qk0).mono ?_
      rintro e w' ⟨rfl, hw⟩
      exact .inl ⟨by simp [encS, *], rfl, hw⟩
    have qh0 : nh = 32 := by omega
    by_cases ql : lim < 0
    · refine (req_no_6l ver oth lim pk ph pb nk ck nh ch nb cb w ql qk0 qh0).mono ?_
      rintro e w' ⟨rfl, hw⟩
      exact .inl ⟨by simp [encS, *] <;> omega, rfl, hw⟩
    by_cases qm : 4294967295 < lim
    · refine (req_no_6m ver oth lim pk ph pb nk ck nh ch nb cb w qm qk0 qh0).mono ?_
      rintro e w' ⟨rfl, hw⟩
      exact .inl ⟨by simp [encS, *] <;> omega, rfl, hw⟩
    refine (req_ok_6 ver oth lim pk ph pb nk ck nh ch nb cb key high batch w hk qk0 hh qh0 (by omega) (by omega)).mono ?_
    rintro e w' ⟨p, n, c, rfl, ho, hw⟩
    rw [show key.take 32 = key from List.take_of_length_le (by omega)] at ho
    rw [show high.take 32 = high from List.take_of_length_le (by omega)] at ho
    obtain rfl := own_bytes ho
    have ql0 : 0 ≤ lim ∧ lim ≤ 4294967295 := by omega
    exact .inr ⟨_, p, c, by simp [encS, *], rfl, ho, hw⟩
  · subst h
    refine (req_ok_7 ver oth lim pk ph pb nk ck nh ch nb cb key high batch w).mono ?_
    rintro e w' ⟨p, n, c, rfl, ho, hw⟩
    obtain rfl := own_bytes ho
    exact .inr ⟨_, p, c, by simp [encS, *], rfl, ho, hw⟩
  · subst h
    refine (req_ok_8 ver oth lim pk ph pb nk ck nh ch nb cb key high batch w).mono ?_
    rintro e w' ⟨p, n, c, rfl, ho, hw⟩
    obtain rfl := own_bytes ho
    exact .inr ⟨_, p, c, by simp [encS, *], rfl, ho, hw⟩
  · subst h
    refine (req_ok_9 ver oth lim pk ph pb nk ck nh ch nb cb key high batch w).mono ?_
    rintro e w' ⟨p, n, c, rfl, ho, hw⟩
    obtain rfl := own_bytes ho
    exact .inr ⟨_, p, c, by simp [encS, *], rfl, ho, hw⟩

end Go.Proofs.YtmedbedpgbbdgaaDoor
