/- Part of the proofs of this seat's statements: what the functions compute. No condition. -/
import Derived.Test.YtdmcmfollfbldaaK3
set_option linter.unusedSimpArgs false
set_option linter.unusedVariables false
namespace Go.Proofs.Ytdmcmfollfbldaa.Kt
structure Hd where
  age : Int
  kind : Int
  id : Int
  adv : Int
  seq : Int
  sum : Int
  len : Int
def farB (x y : Int) : Bool := decide (x < y) && decide (900 < y - x)
def cmp3 (x y : Int) : Int := if x < y then -1 else if y < x then 1 else 0
def orL : List Int → Int
  | [] => 0
  | x :: xs => if x = 0 then orL xs else x
def nCmp (a b : Hd) : Int :=
  if orL [cmp3 a.seq b.seq, cmp3 a.sum b.sum] ≠ 0 then orL [cmp3 a.seq b.seq, cmp3 a.sum b.sum]
  else if decide (3600 ≤ a.age) ≠ decide (3600 ≤ b.age) then (if 3600 ≤ a.age then 1 else -1)
  else if farB a.age b.age then 1 else if farB b.age a.age then -1 else 0
def rCmp (a b : Hd) : Int :=
  if a.seq ≠ b.seq then (if b.seq < a.seq then 1 else -1)
  else if a.sum ≠ b.sum then (if b.sum < a.sum then 1 else -1)
  else if decide (3600 ≤ a.age) ≠ decide (3600 ≤ b.age) then (if 3600 ≤ a.age then 1 else -1)
  else if farB a.age b.age then 1 else if farB b.age a.age then -1 else 0
theorem or2 (a b : Hd) : orL [cmp3 a.seq b.seq, cmp3 a.sum b.sum] = if a.seq ≠ b.seq then (if b.seq < a.seq then 1 else -1) else if a.sum ≠ b.sum then (if b.sum < a.sum then 1 else -1) else 0 := by
  simp only [orL, cmp3]
  repeat' split
  all_goals omega
theorem ageC (x y : Int) : (if decide (3600 ≤ x) ≠ decide (3600 ≤ y) then (if 3600 ≤ x then 1 else -1)
  else if farB x y then 1 else if farB y x then -1 else (0 : Int)) = if 3600 ≤ x ∧ y < 3600 then 1 else if 3600 ≤ y ∧ x < 3600 then -1 else if 900 < y - x then 1 else if 900 < x - y then -1 else 0 := by
  by_cases h1 : 3600 ≤ x <;> by_cases h2 : 3600 ≤ y <;> by_cases h3 : 900 < y - x <;> by_cases h4 : 900 < x - y <;> simp [h1, h2, h3, h4, farB] <;> omega
theorem nC (a b : Hd) : nCmp a b = if a.seq ≠ b.seq then (if b.seq < a.seq then 1 else -1) else if a.sum ≠ b.sum then (if b.sum < a.sum then 1 else -1) else
    if 3600 ≤ a.age ∧ b.age < 3600 then 1 else if 3600 ≤ b.age ∧ a.age < 3600 then -1 else if 900 < b.age - a.age then 1 else if 900 < a.age - b.age then -1 else 0 := by
  unfold nCmp
  rw [ageC, or2]
  repeat' split
  all_goals omega
theorem same (a b : Hd) : nCmp a b = rCmp a b := by
  rw [nC]
  unfold rCmp
  rw [ageC]
theorem anti (a b : Hd) : nCmp a b = - nCmp b a := by
  rw [nC, nC]
  repeat' split
  all_goals omega
theorem self (a : Hd) : nCmp a a = 0 := by
  rw [nC]
  simp
  omega
def up (a b : Hd) : Prop := b.seq < a.seq ∨ (a.seq = b.seq ∧ b.sum < a.sum)
theorem up_of {a b : Hd} (h1 : ¬ (a.seq = b.seq ∧ a.sum = b.sum)) (h3 : 0 < nCmp a b) : up a b := by
  rw [nC] at h3
  unfold up
  by_cases h : a.seq = b.seq
  · rw [if_neg (by simpa using h)] at h3
    by_cases h' : a.sum = b.sum
    · exact absurd ⟨h, h'⟩ h1
    · rw [if_pos h'] at h3
      split at h3 <;> omega
  · rw [if_pos h] at h3
    split at h3 <;> omega
theorem of_up {a b : Hd} (h : up a b) : nCmp a b = 1 := by
  unfold up at h
  rw [nC]
  rcases h with h | ⟨h, h'⟩
  · rw [if_pos (by omega), if_pos h]
  · rw [if_neg (by omega), if_pos (by omega), if_pos h']
theorem tran (a b c : Hd) (h1 : ¬ (a.seq = b.seq ∧ a.sum = b.sum)) (h2 : ¬ (b.seq = c.seq ∧ b.sum = c.sum)) (h3 : 0 < nCmp a b) (h4 : 0 < nCmp b c) : nCmp a c = 1 := by
  have h5 := up_of h1 h3
  have h6 := up_of h2 h4
  refine of_up ?_
  unfold up at *
  omega
end Go.Proofs.Ytdmcmfollfbldaa.Kt
