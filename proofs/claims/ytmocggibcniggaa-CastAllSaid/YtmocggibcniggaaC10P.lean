/- Part of the proofs of this seat's statements: what the functions compute. No condition. -/
import Derived.Test.YtmocggibcniggaaK3
set_option linter.unusedSimpArgs false
set_option linter.unusedVariables false
namespace Go.Proofs.Ytmocggibcniggaa.Kt
def cmp3 (x y : Int) : Int := if x < y then -1 else if y < x then 1 else 0
def orL : List Int → Int
  | [] => 0
  | x :: xs => if x = 0 then orL xs else x
structure Cd where
  id : Int
  addr : Int
  prio : Int
  dr : Int
  bdr : Int
/-- The first is the better one. -/
def bt (c x : Cd) : Bool := decide (0 < orL [cmp3 c.prio x.prio, cmp3 c.id x.id, cmp3 c.addr x.addr])
def step (p : Cd → Bool) (m : Option Cd) (c : Cd) : Option Cd :=
  if c.prio < 1 then m else if p c then (match m with
    | none => some c
    | some x => if bt c x then some c else some x) else m
def bst (p : Cd → Bool) (l : List Cd) : Option Cd := l.foldl (step p) none
def adr : Option Cd → Int
  | none => 0
  | some c => c.addr
theorem bst_take {p : Cd → Bool} {l : List Cd} {j : Nat} {c : Cd} (h : l[j]? = some c) : bst p (l.take (j + 1)) = step p (bst p (l.take j)) c := by
  unfold bst
  rw [List.take_add_one, h]
  simp
theorem bt_eq (a b : Cd) : bt a b = if a.prio ≠ b.prio then decide (b.prio < a.prio) else if a.id ≠ b.id then decide (b.id < a.id) else decide (b.addr < a.addr) := by
  unfold bt
  simp only [orL, cmp3]
  by_cases h1 : a.prio = b.prio
  · rw [if_neg (not_not_intro h1)]
    by_cases h2 : a.id = b.id
    · rw [if_neg (not_not_intro h2)]
      refine decide_eq_decide.2 ?_
      repeat' split
      all_goals omega
    · rw [if_pos h2]
      refine decide_eq_decide.2 ?_
      repeat' split
      all_goals omega
  · rw [if_pos h1]
    refine decide_eq_decide.2 ?_
    repeat' split
    all_goals omega
end Go.Proofs.Ytmocggibcniggaa.Kt
