/- Part of the proofs of this seat's statements: what the functions compute. No condition. -/
import Derived.Test.YtmocggibcniggaaK3
import Derived.Test.YtmocggibcniggaaProg
import Derived.Test.YtmocggibcniggaaK4
set_option linter.unusedSimpArgs false
set_option linter.unusedVariables false
namespace Go.Proofs.Ytmocggibcniggaa.Kt
def cmp3 (x y : Int) : Int := if x < y then -1 else if y < x then 1 else 0
def orL : List Int → Int
  | [] => 0
  | x :: xs => if x = 0 then orL xs else x
structure Cd where
  id : Int
  addr : Int
  prio : Int
  dr : Int
  bdr : Int
/-- The first is the better one. -/
def bt (c x : Cd) : Bool := decide (0 < orL [cmp3 c.prio x.prio, cmp3 c.id x.id, cmp3 c.addr x.addr])
def step (p : Cd → Bool) (m : Option Cd) (c : Cd) : Option Cd :=
  if c.prio < 1 then m else if p c then (match m with
    | none => some c
    | some x => if bt c x then some c else some x) else m
def bst (p : Cd → Bool) (l : List Cd) : Option Cd := l.foldl (step p) none
def adr : Option Cd → Int
  | none => 0
  | some c => c.addr
end Go.Proofs.Ytmocggibcniggaa.Kt
namespace Go.Proofs.Ytmocggibcniggaa.Kt
open Go Kw Go.Proofs
attribute [local irreducible] Kw.GI Kw.GR Kw.FnR Kw.FnX
set_option maxRecDepth 100000
set_option maxHeartbeats 4000000
theorem y3 : tyOf Try.prog 3 = some ⟨false, 1, 8, [.int .i64 0], [], none, some .i64, false, false, false⟩ := by kernel_rfl
theorem y4 : tyOf Try.prog 4 = some ⟨false, 1, 1, [.bool false], [], none, none, true, false, false⟩ := by kernel_rfl
theorem y5 : tyOf Try.prog 5 = some ⟨false, 1, 1, [.int .u8 0], [], none, some .u8, false, false, false⟩ := by kernel_rfl
theorem y22 : tyOf Try.prog 22 = some ⟨false, 1, 24, [.slice none 0 0], [], some 51, none, false, false, false⟩ := by kernel_rfl
theorem y25 : tyOf Try.prog 25 = some ⟨false, 1, 24, [.slice none 0 0], [], some 34, none, false, false, false⟩ := by kernel_rfl
theorem y26 : tyOf Try.prog 26 = some ⟨false, 1, 24, [.slice none 0 0], [], some 69, none, false, false, false⟩ := by kernel_rfl
theorem y27 : tyOf Try.prog 27 = some ⟨false, 1, 24, [.slice none 0 0], [], some 103, none, false, false, false⟩ := by kernel_rfl
theorem y28 : tyOf Try.prog 28 = some ⟨false, 1, 24, [.slice none 0 0], [], some 78, none, false, false, false⟩ := by kernel_rfl
theorem y29 : tyOf Try.prog 29 = some ⟨false, 1, 24, [.slice none 0 0], [], some 3, none, false, false, false⟩ := by kernel_rfl
theorem y30 : tyOf Try.prog 30 = some ⟨true, 5, 120, [.slice none 0 0, .slice none 0 0, .slice none 0 0, .slice none 0 0, .slice none 0 0], [(0,1,false), (1,1,false), (2,1,false), (3,1,false), (4,1,false)], none, none, false, false, false⟩ := by kernel_rfl
theorem y31 : tyOf Try.prog 31 = some ⟨true, 5, 120, [.slice none 0 0, .slice none 0 0, .slice none 0 0, .slice none 0 0, .slice none 0 0], [(0,1,false), (1,1,false), (2,1,false), (3,1,false), (4,1,false)], none, none, false, false, false⟩ := by kernel_rfl
theorem y33 : tyOf Try.prog 33 = some ⟨true, 2, 16, [.int .i64 0, .int .i64 0], [(0,1,false), (1,1,false)], none, none, false, false, true⟩ := by kernel_rfl
theorem y34 : tyOf Try.prog 34 = some ⟨true, 2, 16, [.int .i64 0, .int .i64 0], [(0,1,false), (1,1,false)], none, none, false, false, true⟩ := by kernel_rfl
theorem y37 : tyOf Try.prog 37 = some ⟨false, 1, 24, [.slice none 0 0], [], some 58, none, false, false, false⟩ := by kernel_rfl
theorem y44 : tyOf Try.prog 44 = some ⟨false, 1, 4, [.int .u32 0], [], none, some .u32, false, false, false⟩ := by kernel_rfl
theorem y45 : tyOf Try.prog 45 = some ⟨false, 1, 24, [.slice none 0 0], [], some 44, none, false, false, false⟩ := by kernel_rfl
theorem y46 : tyOf Try.prog 46 = some ⟨false, 1, 24, [.slice none 0 0], [], some 5, none, false, false, false⟩ := by kernel_rfl
theorem y47 : tyOf Try.prog 47 = some ⟨true, 7, 56, [.int .i64 0, .int .i64 0, .int .i64 0, .int .i64 0, .int .i64 0, .int .i64 0, .int .i64 0], [(0,1,false), (1,1,false), (2,1,false), (3,1,false), (4,1,false), (5,1,false), (6,1,false)], none, none, false, false, true⟩ := by kernel_rfl
theorem y48 : tyOf Try.prog 48 = some ⟨true, 7, 56, [.int .i64 0, .int .i64 0, .int .i64 0, .int .i64 0, .int .i64 0, .int .i64 0, .int .i64 0], [(0,1,false), (1,1,false), (2,1,false), (3,1,false), (4,1,false), (5,1,false), (6,1,false)], none, none, false, false, true⟩ := by kernel_rfl
theorem y49 : tyOf Try.prog 49 = some ⟨false, 1, 24, [.slice none 0 0], [], some 54, none, false, false, false⟩ := by kernel_rfl
theorem y50 : tyOf Try.prog 50 = some ⟨true, 12, 144, [.int .i64 0, .int .i64 0, .int .i64 0, .int .i64 0, .int .i64 0, .int .i64 0, .int .i64 0, .int .i64 0, .slice none 0 0, .int .i64 0, .slice none 0 0, .slice none 0 0], [(0,7,true), (7,1,false), (8,1,false), (9,1,false), (10,1,false), (11,1,false)], none, none, false, false, false⟩ := by kernel_rfl
theorem y51 : tyOf Try.prog 51 = some ⟨true, 12, 144, [.int .i64 0, .int .i64 0, .int .i64 0, .int .i64 0, .int .i64 0, .int .i64 0, .int .i64 0, .int .i64 0, .slice none 0 0, .int .i64 0, .slice none 0 0, .slice none 0 0], [(0,7,true), (7,1,false), (8,1,false), (9,1,false), (10,1,false), (11,1,false)], none, none, false, false, false⟩ := by kernel_rfl
theorem y53 : tyOf Try.prog 53 = some ⟨true, 4, 32, [.int .i64 0, .int .i64 0, .int .i64 0, .int .i64 0], [(0,1,false), (1,1,false), (2,1,false), (3,1,false)], none, none, false, false, true⟩ := by kernel_rfl
theorem y54 : tyOf Try.prog 54 = some ⟨true, 4, 32, [.int .i64 0, .int .i64 0, .int .i64 0, .int .i64 0], [(0,1,false), (1,1,false), (2,1,false), (3,1,false)], none, none, false, false, true⟩ := by kernel_rfl
theorem y57 : tyOf Try.prog 57 = some ⟨true, 5, 40, [.int .i64 0, .int .i64 0, .int .i64 0, .int .i64 0, .int .i64 0], [(0,2,true), (2,1,false), (3,1,false), (4,1,false)], none, none, false, false, true⟩ := by kernel_rfl
theorem y58 : tyOf Try.prog 58 = some ⟨true, 5, 40, [.int .i64 0, .int .i64 0, .int .i64 0, .int .i64 0, .int .i64 0], [(0,2,true), (2,1,false), (3,1,false), (4,1,false)], none, none, false, false, true⟩ := by kernel_rfl
theorem y60 : tyOf Try.prog 60 = some ⟨false, 1, 24, [.slice none 0 0], [], some 4, none, false, false, false⟩ := by kernel_rfl
theorem y63 : tyOf Try.prog 63 = some ⟨false, 1, 24, [.slice none 0 0], [], some 67, none, false, false, false⟩ := by kernel_rfl
theorem y66 : tyOf Try.prog 66 = some ⟨true, 5, 40, [.int .i64 0, .int .i64 0, .int .i64 0, .int .i64 0, .int .i64 0], [(0,1,false), (1,1,false), (2,1,false), (3,1,false), (4,1,false)], none, none, false, false, true⟩ := by kernel_rfl
theorem y67 : tyOf Try.prog 67 = some ⟨true, 5, 40, [.int .i64 0, .int .i64 0, .int .i64 0, .int .i64 0, .int .i64 0], [(0,1,false), (1,1,false), (2,1,false), (3,1,false), (4,1,false)], none, none, false, false, true⟩ := by kernel_rfl
theorem y68 : tyOf Try.prog 68 = some ⟨true, 6, 48, [.int .i64 0, .int .i64 0, .int .i64 0, .int .i64 0, .int .i64 0, .int .i64 0], [(0,2,true), (2,2,true), (4,1,false), (5,1,false)], none, none, false, false, true⟩ := by kernel_rfl
theorem y69 : tyOf Try.prog 69 = some ⟨true, 6, 48, [.int .i64 0, .int .i64 0, .int .i64 0, .int .i64 0, .int .i64 0, .int .i64 0], [(0,2,true), (2,2,true), (4,1,false), (5,1,false)], none, none, false, false, true⟩ := by kernel_rfl
theorem y76 : tyOf Try.prog 76 = some ⟨false, 1, 8, [.int .u64 0], [], none, some .u64, false, false, false⟩ := by kernel_rfl
theorem y77 : tyOf Try.prog 77 = some ⟨true, 4, 32, [.int .i64 0, .int .i64 0, .int .i64 0, .int .i64 0], [(0,2,true), (2,1,false), (3,1,false)], none, none, false, false, true⟩ := by kernel_rfl
theorem y78 : tyOf Try.prog 78 = some ⟨true, 4, 32, [.int .i64 0, .int .i64 0, .int .i64 0, .int .i64 0], [(0,2,true), (2,1,false), (3,1,false)], none, none, false, false, true⟩ := by kernel_rfl
theorem y79 : tyOf Try.prog 79 = some ⟨false, 1, 24, [.slice none 0 0], [], some 90, none, false, false, false⟩ := by kernel_rfl
theorem y80 : tyOf Try.prog 80 = some ⟨true, 5, 56, [.int .i64 0, .int .i64 0, .int .i64 0, .int .i64 0, .slice none 0 0], [(0,1,false), (1,1,false), (2,1,false), (3,1,false), (4,1,false)], none, none, false, false, false⟩ := by kernel_rfl
theorem y81 : tyOf Try.prog 81 = some ⟨true, 5, 56, [.int .i64 0, .int .i64 0, .int .i64 0, .int .i64 0, .slice none 0 0], [(0,1,false), (1,1,false), (2,1,false), (3,1,false), (4,1,false)], none, none, false, false, false⟩ := by kernel_rfl
theorem y82 : tyOf Try.prog 82 = some ⟨false, 1, 8, [.int .i64 0], [], none, some .i64, false, false, false⟩ := by kernel_rfl
theorem y85 : tyOf Try.prog 85 = some ⟨false, 1, 24, [.slice none 0 0], [], some 126, none, false, false, false⟩ := by kernel_rfl
theorem y89 : tyOf Try.prog 89 = some ⟨true, 2, 16, [.int .i64 0, .int .i64 0], [(0,1,false), (1,1,false)], none, none, false, false, true⟩ := by kernel_rfl
theorem y90 : tyOf Try.prog 90 = some ⟨true, 2, 16, [.int .i64 0, .int .i64 0], [(0,1,false), (1,1,false)], none, none, false, false, true⟩ := by kernel_rfl
theorem y95 : tyOf Try.prog 95 = some ⟨true, 3, 24, [.int .i64 0, .int .i64 0, .int .i64 0], [(0,1,false), (1,1,false), (2,1,false)], none, none, false, false, true⟩ := by kernel_rfl
theorem y96 : tyOf Try.prog 96 = some ⟨true, 3, 24, [.int .i64 0, .int .i64 0, .int .i64 0], [(0,1,false), (1,1,false), (2,1,false)], none, none, false, false, true⟩ := by kernel_rfl
theorem y102 : tyOf Try.prog 102 = some ⟨true, 4, 32, [.int .i64 0, .int .i64 0, .int .i64 0, .int .i64 0], [(0,1,false), (1,1,false), (2,1,false), (3,1,false)], none, none, false, false, true⟩ := by kernel_rfl
theorem y103 : tyOf Try.prog 103 = some ⟨true, 4, 32, [.int .i64 0, .int .i64 0, .int .i64 0, .int .i64 0], [(0,1,false), (1,1,false), (2,1,false), (3,1,false)], none, none, false, false, true⟩ := by kernel_rfl
theorem y122 : tyOf Try.prog 122 = some ⟨true, 9, 72, [.int .i64 0, .int .i64 0, .int .i64 0, .int .i64 0, .int .i64 0, .int .i64 0, .int .i64 0, .int .i64 0, .int .i64 0], [(0,1,false), (1,1,false), (2,1,false), (3,1,false), (4,1,false), (5,1,false), (6,1,false), (7,1,false), (8,1,false)], none, none, false, false, true⟩ := by kernel_rfl
theorem y123 : tyOf Try.prog 123 = some ⟨true, 9, 72, [.int .i64 0, .int .i64 0, .int .i64 0, .int .i64 0, .int .i64 0, .int .i64 0, .int .i64 0, .int .i64 0, .int .i64 0], [(0,1,false), (1,1,false), (2,1,false), (3,1,false), (4,1,false), (5,1,false), (6,1,false), (7,1,false), (8,1,false)], none, none, false, false, true⟩ := by kernel_rfl
theorem y124 : tyOf Try.prog 124 = some ⟨false, 1, 24, [.slice none 0 0], [], some 131, none, false, false, false⟩ := by kernel_rfl
theorem y125 : tyOf Try.prog 125 = some ⟨true, 11, 120, [.int .i64 0, .int .i64 0, .int .i64 0, .int .i64 0, .int .i64 0, .int .i64 0, .int .i64 0, .int .i64 0, .int .i64 0, .slice none 0 0, .slice none 0 0], [(0,9,true), (9,1,false), (10,1,false)], none, none, false, false, false⟩ := by kernel_rfl
theorem y126 : tyOf Try.prog 126 = some ⟨true, 11, 120, [.int .i64 0, .int .i64 0, .int .i64 0, .int .i64 0, .int .i64 0, .int .i64 0, .int .i64 0, .int .i64 0, .int .i64 0, .slice none 0 0, .slice none 0 0], [(0,9,true), (9,1,false), (10,1,false)], none, none, false, false, false⟩ := by kernel_rfl
theorem y130 : tyOf Try.prog 130 = some ⟨true, 7, 56, [.int .i64 0, .int .i64 0, .int .i64 0, .int .i64 0, .int .i64 0, .bool false, .int .i64 0], [(0,1,false), (1,1,false), (2,1,false), (3,1,false), (4,1,false), (5,1,false), (6,1,false)], none, none, false, false, true⟩ := by kernel_rfl
theorem y131 : tyOf Try.prog 131 = some ⟨true, 7, 56, [.int .i64 0, .int .i64 0, .int .i64 0, .int .i64 0, .int .i64 0, .bool false, .int .i64 0], [(0,1,false), (1,1,false), (2,1,false), (3,1,false), (4,1,false), (5,1,false), (6,1,false)], none, none, false, false, true⟩ := by kernel_rfl
def TT : Tab := [(3, ⟨false, 1, 8, [.int .i64 0], [], none, some .i64, false, false, false⟩), (4, ⟨false, 1, 1, [.bool false], [], none, none, true, false, false⟩), (5, ⟨false, 1, 1, [.int .u8 0], [], none, some .u8, false, false, false⟩), (22, ⟨false, 1, 24, [.slice none 0 0], [], some 51, none, false, false, false⟩), (25, ⟨false, 1, 24, [.slice none 0 0], [], some 34, none, false, false, false⟩), (26, ⟨false, 1, 24, [.slice none 0 0], [], some 69, none, false, false, false⟩), (27, ⟨false, 1, 24, [.slice none 0 0], [], some 103, none, false, false, false⟩), (28, ⟨false, 1, 24, [.slice none 0 0], [], some 78, none, false, false, false⟩), (29, ⟨false, 1, 24, [.slice none 0 0], [], some 3, none, false, false, false⟩), (30, ⟨true, 5, 120, [.slice none 0 0, .slice none 0 0, .slice none 0 0, .slice none 0 0, .slice none 0 0], [(0,1,false), (1,1,false), (2,1,false), (3,1,false), (4,1,false)], none, none, false, false, false⟩), (31, ⟨true, 5, 120, [.slice none 0 0, .slice none 0 0, .slice none 0 0, .slice none 0 0, .slice none 0 0], [(0,1,false), (1,1,false), (2,1,false), (3,1,false), (4,1,false)], none, none, false, false, false⟩), (33, ⟨true, 2, 16, [.int .i64 0, .int .i64 0], [(0,1,false), (1,1,false)], none, none, false, false, true⟩), (34, ⟨true, 2, 16, [.int .i64 0, .int .i64 0], [(0,1,false), (1,1,false)], none, none, false, false, true⟩), (37, ⟨false, 1, 24, [.slice none 0 0], [], some 58, none, false, false, false⟩), (44, ⟨false, 1, 4, [.int .u32 0], [], none, some .u32, false, false, false⟩), (45, ⟨false, 1, 24, [.slice none 0 0], [], some 44, none, false, false, false⟩), (46, ⟨false, 1, 24, [.slice none 0 0], [], some 5, none, false, false, false⟩), (47, ⟨true, 7, 56, [.int .i64 0, .int .i64 0, .int .i64 0, .int .i64 0, .int .i64 0, .int .i64 0, .int .i64 0], [(0,1,false), (1,1,false), (2,1,false), (3,1,false), (4,1,false), (5,1,false), (6,1,false)], none, none, false, false, true⟩), (48, ⟨true, 7, 56, [.int .i64 0, .int .i64 0, .int .i64 0, .int .i64 0, .int .i64 0, .int .i64 0, .int .i64 0], [(0,1,false), (1,1,false), (2,1,false), (3,1,false), (4,1,false), (5,1,false), (6,1,false)], none, none, false, false, true⟩), (49, ⟨false, 1, 24, [.slice none 0 0], [], some 54, none, false, false, false⟩), (50, ⟨true, 12, 144, [.int .i64 0, .int .i64 0, .int .i64 0, .int .i64 0, .int .i64 0, .int .i64 0, .int .i64 0, .int .i64 0, .slice none 0 0, .int .i64 0, .slice none 0 0, .slice none 0 0], [(0,7,true), (7,1,false), (8,1,false), (9,1,false), (10,1,false), (11,1,false)], none, none, false, false, false⟩), (51, ⟨true, 12, 144, [.int .i64 0, .int .i64 0, .int .i64 0, .int .i64 0, .int .i64 0, .int .i64 0, .int .i64 0, .int .i64 0, .slice none 0 0, .int .i64 0, .slice none 0 0, .slice none 0 0], [(0,7,true), (7,1,false), (8,1,false), (9,1,false), (10,1,false), (11,1,false)], none, none, false, false, false⟩), (53, ⟨true, 4, 32, [.int .i64 0, .int .i64 0, .int .i64 0, .int .i64 0], [(0,1,false), (1,1,false), (2,1,false), (3,1,false)], none, none, false, false, true⟩), (54, ⟨true, 4, 32, [.int .i64 0, .int .i64 0, .int .i64 0, .int .i64 0], [(0,1,false), (1,1,false), (2,1,false), (3,1,false)], none, none, false, false, true⟩), (57, ⟨true, 5, 40, [.int .i64 0, .int .i64 0, .int .i64 0, .int .i64 0, .int .i64 0], [(0,2,true), (2,1,false), (3,1,false), (4,1,false)], none, none, false, false, true⟩), (58, ⟨true, 5, 40, [.int .i64 0, .int .i64 0, .int .i64 0, .int .i64 0, .int .i64 0], [(0,2,true), (2,1,false), (3,1,false), (4,1,false)], none, none, false, false, true⟩), (60, ⟨false, 1, 24, [.slice none 0 0], [], some 4, none, false, false, false⟩), (63, ⟨false, 1, 24, [.slice none 0 0], [], some 67, none, false, false, false⟩), (66, ⟨true, 5, 40, [.int .i64 0, .int .i64 0, .int .i64 0, .int .i64 0, .int .i64 0], [(0,1,false), (1,1,false), (2,1,false), (3,1,false), (4,1,false)], none, none, false, false, true⟩), (67, ⟨true, 5, 40, [.int .i64 0, .int .i64 0, .int .i64 0, .int .i64 0, .int .i64 0], [(0,1,false), (1,1,false), (2,1,false), (3,1,false), (4,1,false)], none, none, false, false, true⟩), (68, ⟨true, 6, 48, [.int .i64 0, .int .i64 0, .int .i64 0, .int .i64 0, .int .i64 0, .int .i64 0], [(0,2,true), (2,2,true), (4,1,false), (5,1,false)], none, none, false, false, true⟩), (69, ⟨true, 6, 48, [.int .i64 0, .int .i64 0, .int .i64 0, .int .i64 0, .int .i64 0, .int .i64 0], [(0,2,true), (2,2,true), (4,1,false), (5,1,false)], none, none, false, false, true⟩), (76, ⟨false, 1, 8, [.int .u64 0], [], none, some .u64, false, false, false⟩), (77, ⟨true, 4, 32, [.int .i64 0, .int .i64 0, .int .i64 0, .int .i64 0], [(0,2,true), (2,1,false), (3,1,false)], none, none, false, false, true⟩), (78, ⟨true, 4, 32, [.int .i64 0, .int .i64 0, .int .i64 0, .int .i64 0], [(0,2,true), (2,1,false), (3,1,false)], none, none, false, false, true⟩), (79, ⟨false, 1, 24, [.slice none 0 0], [], some 90, none, false, false, false⟩), (80, ⟨true, 5, 56, [.int .i64 0, .int .i64 0, .int .i64 0, .int .i64 0, .slice none 0 0], [(0,1,false), (1,1,false), (2,1,false), (3,1,false), (4,1,false)], none, none, false, false, false⟩), (81, ⟨true, 5, 56, [.int .i64 0, .int .i64 0, .int .i64 0, .int .i64 0, .slice none 0 0], [(0,1,false), (1,1,false), (2,1,false), (3,1,false), (4,1,false)], none, none, false, false, false⟩), (82, ⟨false, 1, 8, [.int .i64 0], [], none, some .i64, false, false, false⟩), (85, ⟨false, 1, 24, [.slice none 0 0], [], some 126, none, false, false, false⟩), (89, ⟨true, 2, 16, [.int .i64 0, .int .i64 0], [(0,1,false), (1,1,false)], none, none, false, false, true⟩), (90, ⟨true, 2, 16, [.int .i64 0, .int .i64 0], [(0,1,false), (1,1,false)], none, none, false, false, true⟩), (95, ⟨true, 3, 24, [.int .i64 0, .int .i64 0, .int .i64 0], [(0,1,false), (1,1,false), (2,1,false)], none, none, false, false, true⟩), (96, ⟨true, 3, 24, [.int .i64 0, .int .i64 0, .int .i64 0], [(0,1,false), (1,1,false), (2,1,false)], none, none, false, false, true⟩), (102, ⟨true, 4, 32, [.int .i64 0, .int .i64 0, .int .i64 0, .int .i64 0], [(0,1,false), (1,1,false), (2,1,false), (3,1,false)], none, none, false, false, true⟩), (103, ⟨true, 4, 32, [.int .i64 0, .int .i64 0, .int .i64 0, .int .i64 0], [(0,1,false), (1,1,false), (2,1,false), (3,1,false)], none, none, false, false, true⟩), (122, ⟨true, 9, 72, [.int .i64 0, .int .i64 0, .int .i64 0, .int .i64 0, .int .i64 0, .int .i64 0, .int .i64 0, .int .i64 0, .int .i64 0], [(0,1,false), (1,1,false), (2,1,false), (3,1,false), (4,1,false), (5,1,false), (6,1,false), (7,1,false), (8,1,false)], none, none, false, false, true⟩), (123, ⟨true, 9, 72, [.int .i64 0, .int .i64 0, .int .i64 0, .int .i64 0, .int .i64 0, .int .i64 0, .int .i64 0, .int .i64 0, .int .i64 0], [(0,1,false), (1,1,false), (2,1,false), (3,1,false), (4,1,false), (5,1,false), (6,1,false), (7,1,false), (8,1,false)], none, none, false, false, true⟩), (124, ⟨false, 1, 24, [.slice none 0 0], [], some 131, none, false, false, false⟩), (125, ⟨true, 11, 120, [.int .i64 0, .int .i64 0, .int .i64 0, .int .i64 0, .int .i64 0, .int .i64 0, .int .i64 0, .int .i64 0, .int .i64 0, .slice none 0 0, .slice none 0 0], [(0,9,true), (9,1,false), (10,1,false)], none, none, false, false, false⟩), (126, ⟨true, 11, 120, [.int .i64 0, .int .i64 0, .int .i64 0, .int .i64 0, .int .i64 0, .int .i64 0, .int .i64 0, .int .i64 0, .int .i64 0, .slice none 0 0, .slice none 0 0], [(0,9,true), (9,1,false), (10,1,false)], none, none, false, false, false⟩), (130, ⟨true, 7, 56, [.int .i64 0, .int .i64 0, .int .i64 0, .int .i64 0, .int .i64 0, .bool false, .int .i64 0], [(0,1,false), (1,1,false), (2,1,false), (3,1,false), (4,1,false), (5,1,false), (6,1,false)], none, none, false, false, true⟩), (131, ⟨true, 7, 56, [.int .i64 0, .int .i64 0, .int .i64 0, .int .i64 0, .int .i64 0, .bool false, .int .i64 0], [(0,1,false), (1,1,false), (2,1,false), (3,1,false), (4,1,false), (5,1,false), (6,1,false)], none, none, false, false, true⟩)]
theorem hT : TabOk Try.prog TT := .cons y3 (.cons y4 (.cons y5 (.cons y22 (.cons y25 (.cons y26 (.cons y27 (.cons y28 (.cons y29 (.cons y30 (.cons y31 (.cons y33 (.cons y34 (.cons y37 (.cons y44 (.cons y45 (.cons y46 (.cons y47 (.cons y48 (.cons y49 (.cons y50 (.cons y51 (.cons y53 (.cons y54 (.cons y57 (.cons y58 (.cons y60 (.cons y63 (.cons y66 (.cons y67 (.cons y68 (.cons y69 (.cons y76 (.cons y77 (.cons y78 (.cons y79 (.cons y80 (.cons y81 (.cons y82 (.cons y85 (.cons y89 (.cons y90 (.cons y95 (.cons y96 (.cons y102 (.cons y103 (.cons y122 (.cons y123 (.cons y124 (.cons y125 (.cons y126 (.cons y130 (.cons y131 (.nil _)))))))))))))))))))))))))))))))))))))))))))))))))))))
theorem hm : Try.prog.follows .mixedOrders = true := by kernel_rfl
abbrev I (n : Int) : AV := .r (.v (.int .i64 n))
abbrev Bo (n : Bool) : AV := .r (.v (.bool n))
theorem pI {x : Int} : ∀ r S1, (r = I x ∧ S1 = []) → plainA r = true ∧ PlainS S1 := by
  rintro r S ⟨rfl, rfl⟩
  exact ⟨rfl, PlainS.nil⟩
theorem pB {x : Bool} : ∀ r S1, (r = Bo x ∧ S1 = []) → plainA r = true ∧ PlainS S1 := by
  rintro r S ⟨rfl, rfl⟩
  exact ⟨rfl, PlainS.nil⟩
abbrev RI (x : Int) : AV → Sp → Prop := fun r S => r = I x ∧ S = []
abbrev RB (x : Bool) : AV → Sp → Prop := fun r S => r = Bo x ∧ S = []
theorem pA {x : AV} (h : plainA x = true) : ∀ r S1, (r = x ∧ S1 = []) → plainA r = true ∧ PlainS S1 := by
  rintro r S ⟨rfl, rfl⟩
  exact ⟨h, PlainS.nil⟩
/-! ### the words -/
structure Vt where
  k : Int
  i : Int
  deriving DecidableEq
structure Lk where
  k : Int
  i : Int
  d : Int
  c : Int
  deriving DecidableEq
structure Eg where
  f : Vt
  t : Vt
  c : Int
  d : Int
  deriving DecidableEq
structure Nd where
  v : Vt
  p : Int
  c : Int
  d : Int
  deriving DecidableEq
structure Sn where
  v : Vt
  p : Int
  b : Int
  deriving DecidableEq
structure Sb where
  r : Int
  p : Int
  b : Int
  c : Int
  deriving DecidableEq
structure Ls where
  age : Int
  kind : Int
  id : Int
  adv : Int
  seq : Int
  sum : Int
  len : Int
  fl : Int
  lk : List Lk
  bits : Int
  rt : List Int
  vt : List Vt
abbrev Vt.row (v : Vt) : List RV := [.v (.int .i64 v.k), .v (.int .i64 v.i)]
abbrev Vt.av (v : Vt) : AV := .agg [I v.k, I v.i]
abbrev Lk.row (v : Lk) : List RV := [.v (.int .i64 v.k), .v (.int .i64 v.i), .v (.int .i64 v.d), .v (.int .i64 v.c)]
abbrev Lk.av (v : Lk) : AV := .agg [I v.k, I v.i, I v.d, I v.c]
abbrev Eg.row (v : Eg) : List RV := [.v (.int .i64 v.f.k), .v (.int .i64 v.f.i), .v (.int .i64 v.t.k), .v (.int .i64 v.t.i), .v (.int .i64 v.c), .v (.int .i64 v.d)]
abbrev Eg.av (v : Eg) : AV := .agg [I v.f.k, I v.f.i, I v.t.k, I v.t.i, I v.c, I v.d]
abbrev Nd.row (v : Nd) : List RV := [.v (.int .i64 v.v.k), .v (.int .i64 v.v.i), .v (.int .i64 v.p), .v (.int .i64 v.c), .v (.int .i64 v.d)]
abbrev Nd.av (v : Nd) : AV := .agg [I v.v.k, I v.v.i, I v.p, I v.c, I v.d]
abbrev Sn.row (v : Sn) : List RV := [.v (.int .i64 v.v.k), .v (.int .i64 v.v.i), .v (.int .i64 v.p), .v (.int .i64 v.b)]
abbrev Sb.row (v : Sb) : List RV := [.v (.int .i64 v.r), .v (.int .i64 v.p), .v (.int .i64 v.b), .v (.int .i64 v.c)]
abbrev nRow (n : Int) : List RV := [.v (.int .i64 n)]
abbrev fK (l : List Lk) : RV := .fs 4 (l.map Lk.row)
abbrev fN (l : List Int) : RV := .fs 1 (l.map nRow)
abbrev fV (l : List Vt) : RV := .fs 2 (l.map Vt.row)
abbrev Ls.row (x : Ls) : List RV := [.v (.int .i64 x.age), .v (.int .i64 x.kind), .v (.int .i64 x.id), .v (.int .i64 x.adv), .v (.int .i64 x.seq), .v (.int .i64 x.sum), .v (.int .i64 x.len), .v (.int .i64 x.fl), fK x.lk, .v (.int .i64 x.bits), fN x.rt, fV x.vt]
abbrev Ls.cells (x : Ls) : List AV := [I x.age, I x.kind, I x.id, I x.adv, I x.seq, I x.sum, I x.len, I x.fl, .r (fK x.lk), I x.bits, .r (fN x.rt), .r (fV x.vt)]
abbrev Ls.av (x : Ls) : AV := .agg x.cells
abbrev fsL (l : List Ls) : AV := .r (.fs 12 (l.map Ls.row))
abbrev rsV (l : List Vt) : AV := .r (.rs 2 (l.map Vt.row))
abbrev rsN (l : List Int) : AV := .r (.rs 1 (l.map nRow))
abbrev eV (l : List Vt) : Option SE := some ⟨34, 2, l.map Vt.row, false⟩
abbrev eE (l : List Eg) : Option SE := some ⟨69, 6, l.map Eg.row, false⟩
abbrev eN (l : List Int) : Option SE := some ⟨3, 1, l.map nRow, false⟩
abbrev eSn (l : List Sn) : Option SE := some ⟨78, 4, l.map Sn.row, false⟩
abbrev eSb (l : List Sb) : Option SE := some ⟨103, 4, l.map Sb.row, false⟩
abbrev eNd (l : List Nd) : Option SE := some ⟨58, 5, l.map Nd.row, false⟩
def zLs : Ls := ⟨0, 0, 0, 0, 0, 0, 0, 0, [], 0, [], []⟩
def zLk : Lk := ⟨0, 0, 0, 0⟩
theorem isNaN_ok (x : Int) : FnR Try.prog 87 [I x] (RB false) := by
  refine fnR_intro (T := TT) (n := 6) Try.func87 rfl rfl rfl (fun w Z => ?_)
  (repeat (first | refine r_end ?_ | (refine r_op ?_; refine r_pure hT rfl rfl rfl rfl rfl rfl ?_) | refine gi_seq ?_ | refine gi_plain ?_))
  refine gi_retW hT Try.func87 rfl rfl [] rfl rfl rfl rfl ?_
  exact ⟨by simp [notB_eq, eqB_eq], rfl⟩
theorem Compare_ok (x y : Int) : FnR Try.prog 66 [I x, I y] (RI (cmp3 x y)) := by
  refine fnR_intro (T := TT) (n := 20) Try.func66 rfl rfl rfl (fun w Z => ?_)
  (repeat (first | refine r_end ?_ | (refine r_op ?_; refine r_pure hT rfl rfl rfl rfl rfl rfl ?_) | refine gi_seq ?_ | refine gi_plain ?_))
  refine r_call (isNaN_ok x) rfl rfl rfl rfl rfl rfl rfl rfl Try.func87 rfl rfl rfl pB ?_
  rintro r S1 ⟨rfl, rfl⟩
  (repeat (first | refine r_end ?_ | (refine r_op ?_; refine r_pure hT rfl rfl rfl rfl rfl rfl ?_) | refine gi_seq ?_ | refine gi_plain ?_))
  refine r_call (isNaN_ok y) rfl rfl rfl rfl rfl rfl rfl rfl Try.func87 rfl rfl rfl pB ?_
  rintro r S1 ⟨rfl, rfl⟩
  (repeat (first | refine r_end ?_ | (refine r_op ?_; refine r_pure hT rfl rfl rfl rfl rfl rfl ?_) | refine gi_seq ?_ | refine gi_plain ?_ | refine gi_skip ?_ | (refine gi_cnd ?_; first | refine gi_true rfl ?_ | refine gi_false rfl ?_)))
  refine gi_lt rfl (fun h1 => ?_) (fun h1 => ?_)
  · (repeat (first | refine r_end ?_ | (refine r_op ?_; refine r_pure hT rfl rfl rfl rfl rfl rfl ?_) | refine gi_seq ?_ | refine gi_plain ?_))
    refine gi_retW hT Try.func66 rfl rfl [] rfl rfl rfl rfl ?_
    exact ⟨by simp [cmp3, h1], rfl⟩
  · (repeat (first | refine r_end ?_ | (refine r_op ?_; refine r_pure hT rfl rfl rfl rfl rfl rfl ?_) | refine gi_seq ?_ | refine gi_plain ?_ | refine gi_skip ?_))
    refine gi_lt rfl (fun h2 => ?_) (fun h2 => ?_)
    · (repeat (first | refine r_end ?_ | (refine r_op ?_; refine r_pure hT rfl rfl rfl rfl rfl rfl ?_) | refine gi_seq ?_ | refine gi_plain ?_))
      refine gi_retW hT Try.func66 rfl rfl [] rfl rfl rfl rfl ?_
      exact ⟨by simp [cmp3, h1, h2], rfl⟩
    · (repeat (first | refine r_end ?_ | (refine r_op ?_; refine r_pure hT rfl rfl rfl rfl rfl rfl ?_) | refine gi_seq ?_ | refine gi_plain ?_ | refine gi_skip ?_))
      refine gi_retW hT Try.func66 rfl rfl [] rfl rfl rfl rfl ?_
      exact ⟨by simp [cmp3, h1, h2], rfl⟩
theorem orL_drop {xs : List Int} {j : Nat} {x : Int} (h : xs[j]? = some x) : orL (xs.drop j) = if x = 0 then orL (xs.drop (j + 1)) else x := by
  rw [List.drop_eq_getElem_cons (List.getElem?_eq_some_iff.1 h).1, (List.getElem?_eq_some_iff.1 h).2]
  rfl
theorem Or_ok (xs : List Int) (hl : xs.length < 1000000) : FnR Try.prog 65 [rsN xs] (RI (orL xs)) := by
  refine fnR_intro (T := TT) (n := 18) Try.func65 rfl rfl rfl (fun w Z => ?_)
  (repeat (first | refine r_end ?_ | (refine r_op ?_; refine r_pure hT rfl rfl rfl rfl rfl rfl ?_) | refine gi_seq ?_ | refine gi_plain ?_ | refine gi_block ?_))
  refine gi_loop (σ := Nat) (fun j => [(8, I j), (7, I xs.length), (6, rsN xs), (3, I 0), (2, I 0)]) (fun _ => []) (fun _ => []) (fun j => j ≤ xs.length ∧ orL (xs.drop j) = orL xs) (fun j => xs.length - j) 0 ⟨Nat.zero_le _, rfl⟩ ⟨rfl, ?_, rfl, rfl, rfl, trivial⟩ trivial trivial (fun _ => rfl) (fun j hj next => ?_)
  · show some (I ((xs.map _).length : Nat)) = _
    rw [List.length_map]
  obtain ⟨h1, h2⟩ := hj
  (repeat (first | refine r_end ?_ | (refine r_op ?_; refine r_pure hT rfl rfl rfl rfl rfl rfl ?_) | refine gi_seq ?_ | refine gi_plain ?_))
  refine gi_lt rfl (fun h3 => ?_) (fun h3 => ?_)
  · have h3' : j < xs.length := by omega
    obtain ⟨x, hx⟩ : ∃ x, xs[j]? = some x := ⟨_, List.getElem?_eq_getElem h3'⟩
    (repeat (first | refine gi_seq ?_ | refine gi_plain ?_ | refine gi_skip ?_ | refine gi_block ?_))
    refine r_idx (row := [.v (.int .i64 x)]) hT rfl rfl rfl rfl rfl rfl rfl rfl rfl rfl rfl rfl (by omega) (by simp [hx]) ?_
    (repeat (first | refine r_end ?_ | (refine r_op ?_; first | refine r_pure hT rfl rfl rfl rfl rfl rfl ?_ | refine r_load hT rfl rfl rfl rfl rfl rfl rfl rfl rfl ?_) | refine gi_seq ?_ | refine gi_plain ?_))
    refine gi_ne rfl (fun h4 => ?_) (fun h4 => ?_)
    · (repeat (first | refine r_end ?_ | (refine r_op ?_; refine r_pure hT rfl rfl rfl rfl rfl rfl ?_) | refine gi_seq ?_ | refine gi_plain ?_))
      refine gi_retW hT Try.func65 rfl rfl [] rfl rfl rfl rfl ?_
      rw [orL_drop hx, if_neg h4] at h2
      exact ⟨by rw [h2], rfl⟩
    · (repeat (first | refine r_end ?_ | (refine r_op ?_; refine r_pure hT rfl rfl rfl rfl rfl rfl ?_) | refine gi_plain ?_ | refine gi_skip ?_ | refine gi_inBlock ?_))
      refine next (j + 1) _ _ _ ⟨h3', ?_⟩ (by omega) ⟨?_, rfl, rfl, rfl, rfl, trivial⟩ trivial trivial
      · rw [orL_drop hx, if_pos h4] at h2
        exact h2
      · show some (I (wr .i64 ((j : Int) + 1))) = _
        rw [wr_i64 (by omega) (by omega)]
        simp
  · (repeat (first | refine r_end ?_ | (refine r_op ?_; refine r_pure hT rfl rfl rfl rfl rfl rfl ?_) | refine gi_seq ?_ | refine gi_plain ?_ | refine gi_exit rfl ?_))
    refine gi_retW hT Try.func65 rfl rfl [] rfl rfl rfl rfl ?_
    have : j = xs.length := by omega
    subst this
    simp [orL] at h2
    exact ⟨by rw [← h2], rfl⟩
end Go.Proofs.Ytmocggibcniggaa.Kt
namespace Go.Proofs.Ytmocggibcniggaa.Kt
open Go Kw Go.Proofs
attribute [local irreducible] Kw.GI Kw.GR Kw.FnR Kw.FnX
set_option maxHeartbeats 4000000
set_option maxRecDepth 100000
theorem Has_ok (l : List Int) (n : Int) (hl : l.length < 1000000) : FnR Try.prog 57 [rsN l, I n] (RB (l.contains n)) := by
  refine fnR_intro (T := TT) (n := 18) Try.func57 rfl rfl rfl (fun w Z => ?_)
  (repeat (first | refine r_end ?_ | (refine r_op ?_; refine r_pure hT rfl rfl rfl rfl rfl rfl ?_) | refine gi_seq ?_ | refine gi_plain ?_ | refine gi_block ?_))
  refine gi_loop (σ := Nat) (fun j => [(5, I j), (0, rsN l), (1, I n)]) (fun _ => []) (fun _ => []) (fun j => j ≤ l.length ∧ ∀ i, i < j → l[i]? ≠ some n) (fun j => l.length - j) 0 ⟨Nat.zero_le _, fun i h => absurd h (Nat.not_lt_zero _)⟩ ⟨rfl, rfl, rfl, trivial⟩ trivial trivial (fun _ => rfl) (fun j hj next => ?_)
  obtain ⟨h1, h2⟩ := hj
  (repeat (first | refine r_end ?_ | (refine r_op ?_; refine r_pure hT rfl rfl rfl rfl rfl rfl ?_) | refine gi_seq ?_ | refine gi_plain ?_))
  refine gi_lt (q := ((l.map nRow).length : Int)) rfl (fun h3 => ?_) (fun h3 => ?_)
  · rw [List.length_map] at h3
    have h3' : j < l.length := by omega
    obtain ⟨x, hx⟩ : ∃ x, l[j]? = some x := ⟨_, List.getElem?_eq_getElem h3'⟩
    (repeat (first | (refine r_op ?_; refine r_pure hT rfl rfl rfl rfl rfl rfl ?_) | refine gi_seq ?_ | refine gi_plain ?_ | refine gi_skip ?_ | refine gi_block ?_))
    refine r_idx (row := nRow x) hT rfl rfl rfl rfl rfl rfl rfl rfl rfl rfl rfl rfl (by omega) (by simp [hx]) ?_
    (repeat (first | refine r_end ?_ | (refine r_op ?_; first | refine r_pure hT rfl rfl rfl rfl rfl rfl ?_ | refine r_load hT rfl rfl rfl rfl rfl rfl rfl rfl rfl ?_)))
    refine gi_eq rfl (fun h4 => ?_) (fun h4 => ?_)
    · (repeat (first | refine r_end ?_ | (refine r_op ?_; refine r_pure hT rfl rfl rfl rfl rfl rfl ?_) | refine gi_seq ?_ | refine gi_plain ?_))
      refine gi_retW hT Try.func57 rfl rfl [] rfl rfl rfl rfl ?_
      subst h4
      refine ⟨?_, rfl⟩
      rw [List.contains_iff_mem.2 (List.mem_of_getElem? hx)]
    · (repeat (first | refine r_end ?_ | (refine r_op ?_; refine r_pure hT rfl rfl rfl rfl rfl rfl ?_) | refine gi_plain ?_ | refine gi_skip ?_ | refine gi_inBlock ?_))
      refine next (j + 1) _ _ _ ⟨h3', fun i hi => ?_⟩ (by omega) ⟨?_, rfl, rfl, trivial⟩ trivial trivial
      · rcases Nat.lt_succ_iff_lt_or_eq.1 hi with hi | rfl
        · exact h2 i hi
        · rw [hx]; intro e; exact h4 (Option.some.inj e)
      · show some (I (wr .i64 ((j : Int) + 1))) = _
        rw [wr_i64 (by omega) (by omega)]
        simp
  · rw [List.length_map] at h3
    (repeat (first | refine r_end ?_ | (refine r_op ?_; refine r_pure hT rfl rfl rfl rfl rfl rfl ?_) | refine gi_seq ?_ | refine gi_plain ?_ | refine gi_exit rfl ?_))
    refine gi_retW hT Try.func57 rfl rfl [] rfl rfl rfl rfl ?_
    refine ⟨?_, rfl⟩
    have : l.contains n = false := by
      rw [← Bool.not_eq_true, List.contains_iff_mem]
      intro hm
      obtain ⟨i, hi⟩ := List.mem_iff_getElem?.1 hm
      exact h2 i (by have := (List.getElem?_eq_some_iff.1 hi).1; omega) hi
    rw [this]
def vlt (a b : Vt) : Bool := decide (a.k < b.k) || (decide (a.k = b.k) && decide (a.i < b.i))
def insV : List Vt → Vt → List Vt
  | [], v => [v]
  | x :: l, v => if vlt x v then x :: insV l v else if x = v then x :: l else v :: x :: l
theorem insV_at {v : Vt} : ∀ {l : List Vt} {a : Nat}, a ≤ l.length → (∀ t, t < a → ∀ x, l[t]? = some x → vlt x v = true) → (∀ x, l[a]? = some x → vlt x v = false) → insV l v = if l[a]? = some v then l else l.take a ++ v :: l.drop a
  | [], a, h, _, _ => by
    have : a = 0 := by simpa using h
    subst this; rfl
  | x :: l, 0, _, _, h2 => by
    have := h2 x rfl
    unfold insV
    rw [this]
    simp
  | x :: l, a + 1, h, h1, h2 => by
    have hx := h1 0 (by omega) x rfl
    have ih := insV_at (v := v) (l := l) (a := a) (by simpa using h) (fun t ht y hy => h1 (t + 1) (by omega) y (by simpa using hy)) (fun y hy => h2 y (by simpa using hy))
    unfold insV
    rw [if_pos hx, ih]
    simp only [List.getElem?_cons_succ, List.take_succ_cons, List.drop_succ_cons, List.cons_append]
    split <;> rfl
theorem insV_len {v : Vt} : ∀ (l : List Vt), (insV l v).length ≤ l.length + 1
  | [] => by simp [insV]
  | x :: l => by
    unfold insV
    have := insV_len (v := v) l
    split
    · simp; omega
    · split <;> simp
abbrev eVr (L : List (List RV)) : Option SE := some ⟨34, 2, L, false⟩
abbrev RV1 (X : Option SE) : AV → Hp → Sp → Prop := fun r H S => r = .sl 0 ∧ H = [] ∧ S = [X]
theorem stLL_V : ∀ (l : List Vt), stLL (l.map Vt.row) = true
  | [] => rfl
  | c :: l => by
    show (stL (Vt.row c) && stLL (l.map Vt.row)) = true
    rw [stLL_V l]; rfl
theorem pV1 {l : List Vt} : ∀ r H1 S1, RV1 (eV l) r H1 S1 → stA r = true ∧ StH H1 ∧ StS S1 := by
  rintro r H S ⟨rfl, rfl, rfl⟩
  refine ⟨rfl, StH.nil, fun e he s hs => ?_⟩
  rw [List.mem_singleton.1 he] at hs
  cases hs
  exact stLL_V l
/-! shifting a list up by one -/
abbrev zV : List RV := [.v (.int .i64 0), .v (.int .i64 0)]
theorem sh0 {α : Type} (R : List α) (z : α) : (R ++ [z]).take (R.length + 1) ++ R.drop R.length = R ++ [z] := by rw [List.take_of_length_le (by simp)]; simp
theorem sh_get1 {α : Type} {R : List α} {z : α} {k : Nat} (hk : k < R.length) : ((R ++ [z]).take (k + 1 + 1) ++ R.drop (k + 1))[k]? = R[k]? := by
  rw [List.getElem?_append_left (by simp; omega), List.getElem?_take, if_pos (by omega), List.getElem?_append_left hk]
theorem take_snoc {α : Type} {l : List α} {j : Nat} {x : α} (h : l[j]? = some x) : l.take (j + 1) = l.take j ++ [x] := by rw [List.take_add_one, h]; rfl
theorem sh_step {α : Type} {R : List α} {z y : α} {k : Nat} (hy : R[k]? = some y) : ((R ++ [z]).take (k + 1 + 1) ++ R.drop (k + 1)).set (k + 1) y = (R ++ [z]).take (k + 1) ++ R.drop k := by
  have hk := (List.getElem?_eq_some_iff.1 hy).1
  have hd : R.drop k = y :: R.drop (k + 1) := by
    rw [List.drop_eq_getElem_cons hk, (List.getElem?_eq_some_iff.1 hy).2]
  rw [List.set_append_left _ _ (by simp; omega), hd]
  obtain ⟨w, hw⟩ : ∃ w, (R ++ [z])[k + 1]? = some w := ⟨_, List.getElem?_eq_getElem (by simp; omega)⟩
  rw [take_snoc hw, List.set_append_right _ _ (by simp; omega)]
  simp only [List.length_take, List.length_append, List.length_singleton]
  rw [show k + 1 - min (k + 1) (R.length + 1) = 0 by omega]
  simp
theorem sh_end {α : Type} {R : List α} {z y : α} {a : Nat} (ha : a ≤ R.length) : ((R ++ [z]).take (a + 1) ++ R.drop a).set a y = R.take a ++ y :: R.drop a := by
  obtain ⟨w, hw⟩ : ∃ w, (R ++ [z])[a]? = some w := ⟨_, List.getElem?_eq_getElem (by simp; omega)⟩
  rw [take_snoc hw, List.append_assoc, List.set_append_right _ _ (by simp; omega)]
  rw [List.length_take, List.length_append, List.length_singleton, show a - min a (R.length + 1) = 0 by omega, List.take_append_of_le_length ha]
  rfl
theorem sh_row (o : List Vt) (k : Nat) (hk : k ≤ o.length) : ∃ r0, ((o.map Vt.row ++ [zV]).take (k + 1) ++ (o.map Vt.row).drop k)[k]? = some r0 ∧ ∀ y : Vt, setR r0 0 y.row = y.row := by
  rw [List.getElem?_append_left (by simp; omega), List.getElem?_take, if_pos (by omega)]
  by_cases h : k < o.length
  · obtain ⟨y, hy⟩ : ∃ y, o[k]? = some y := ⟨_, List.getElem?_eq_getElem h⟩
    exact ⟨y.row, by rw [List.getElem?_append_left (by simpa using h), List.getElem?_map, hy]; rfl, fun _ => rfl⟩
  · have : k = o.length := by omega
    subst this
    exact ⟨zV, by rw [List.getElem?_append_right (by simp)]; simp, fun _ => rfl⟩
end Go.Proofs.Ytmocggibcniggaa.Kt
namespace Go.Proofs.Ytmocggibcniggaa.Kt
open Go Kw Go.Proofs
attribute [local irreducible] Kw.GI Kw.GR Kw.FnR Kw.FnX
set_option maxHeartbeats 8000000
set_option maxRecDepth 100000
theorem y_flat_Vt : flatK Try.prog 34 = some [some .i64, some .i64] := by kernel_rfl
theorem vlt_eq (x v : Vt) : vlt x v = (ltB x.k v.k || (eqB x.k v.k && ltB x.i v.i)) := by
  unfold vlt
  rw [ltB_eq, ltB_eq, eqB_eq, Bool.beq_eq_decide_eq]
theorem veq_eq (x v : Vt) : (eqB x.k v.k && (eqB x.i v.i && true)) = decide (x = v) := by
  rw [eqB_eq, eqB_eq, Bool.beq_eq_decide_eq, Bool.beq_eq_decide_eq, Bool.and_true, ← Bool.decide_and]
  refine decide_eq_decide.2 ⟨fun h => ?_, fun h => h ▸ ⟨rfl, rfl⟩⟩
  cases x; cases v; simp only [Vt.mk.injEq]; exact h
abbrev hV (v : Vt) : Option (TypeId × List AV) := some (34, [I v.k, I v.i])
theorem Vert_ok (l : List Vt) (v : Vt) (hl : l.length < 1000000) : FnX Try.prog 52 [.sl 0, v.av] [] [eV l] (RV1 (eV (insV l v))) := by
  refine fnX_intro (T := TT) (n := 81) Try.func52 rfl rfl rfl (fun w X Z Y B => ?_)
  (repeat (first | refine r_end ?_ | (refine r_op ?_; first | refine r_pure hT rfl rfl rfl rfl rfl rfl ?_ | refine r_box rfl rfl rfl rfl rfl rfl rfl rfl rfl ?_) | refine gi_seq ?_ | refine gi_plain ?_ | refine gi_block ?_))
  apply gi_cut (σ := Nat) (fun a => [(5, I a), (3, .box 0 0), (0, .sl 0)]) (fun _ => [hV v]) (fun _ => [eV l]) (fun a => a ≤ l.length ∧ (∀ t, t < a → ∀ x, l[t]? = some x → vlt x v = true) ∧ ∀ x, l[a]? = some x → vlt x v = false) (fun _ => rfl)
  case first =>
    intro fin
    refine gi_loop (σ := Nat) (fun a => [(5, I a), (3, .box 0 0), (0, .sl 0)]) (fun _ => [hV v]) (fun _ => [eV l]) (fun a => a ≤ l.length ∧ ∀ t, t < a → ∀ x, l[t]? = some x → vlt x v = true) (fun a => l.length - a) 0 ⟨Nat.zero_le _, fun t ht => absurd ht (Nat.not_lt_zero _)⟩ ⟨rfl, rfl, rfl, trivial⟩ ⟨rfl, trivial⟩ ⟨rfl, trivial⟩ (fun _ => rfl) (fun a ha next => ?_)
    obtain ⟨hal, hlt⟩ := ha
    (repeat (refine gi_seq ?_))
    refine gi_drawM [] [(0, .p), (1, .p), (2, .p), (3, .p), (4, .p), (5, .p), (6, .p), (7, .p), (8, .p), (10, .p), (9, .t), (11, .t), (12, .p), (13, .p), (14, .p), (15, .p), (16, .p), (17, .p), (19, .p), (18, .t), (20, .t), (21, .p), (22, .p), (23, .p), (24, .p), (25, .p), (26, .p), (28, .p), (27, .t), (29, .t), (30, .p), (31, .p), (32, .p), (33, .p)] [0, 0, 2, 5, 8, 16, 16, 112, 144, 272, 16, 1040, 2576, 4112, 8192, 8192, 57344, 73728, 139264, 8192, 532480, 1318912, 2105344, 4194304, 4194304, 29360128, 37748736, 71303168, 4194304, 272629760, 675282944, 1077944320, 2147491856, 4294967312] [0, 0, 2, 5, 8, 16, 16, 112, 144, 272, 16, 1040, 2576, 4112, 8192, 8192, 57344, 73728, 139264, 8192, 532480, 1318912, 2105344, 4194304, 4194304, 29360128, 37748736, 71303168, 4194304, 272629760, 675282944, 1077944320, 2147491856, 4294967312] hm rfl (by kernel_rfl) (fun w1 K => ?_)
    (repeat ((refine r_op ?_; refine r_pure hT rfl rfl rfl rfl rfl rfl ?_)))
    refine r_case (d := 11) rfl (fun c1 => ?_) (fun c1 => ?_)
    · rw [ltB_eq, List.length_map] at c1
      have hao : a < l.length := by have := of_decide_eq_true c1; omega
      obtain ⟨y, hy⟩ : ∃ y, l[a]? = some y := ⟨_, List.getElem?_eq_getElem hao⟩
      have hve := vlt_eq y v
      have more : vlt y v = true → ∀ F1 H1 S1, SubF [(5, I (wr .i64 ((a : Int) + 1))), (3, .box 0 0), (0, .sl 0)] F1 → SubH [hV v] H1 → SubS [eV l] S1 → GI _ _ F1 H1 S1 := fun hb F1 H1 S1 hF hH hS => by
        refine next (a + 1) F1 H1 S1 ⟨hao, fun t ht x hx => ?_⟩ (by omega) ?_ hH hS
        · rcases Nat.lt_succ_iff_lt_or_eq.1 ht with ht | rfl
          · exact hlt t ht x hx
          · rw [hy] at hx; cases hx; exact hb
        · rw [wr_i64 (by omega) (by omega)] at hF
          simpa using hF
      (repeat ((refine r_op ?_; refine r_pure hT rfl rfl rfl rfl rfl rfl ?_)))
      refine r_idxS hT rfl rfl rfl rfl rfl rfl rfl rfl rfl rfl rfl rfl rfl (by (try dsimp only) <;> (try simp only [wrL, List.length_map, List.length_append, List.length_take, List.length_drop, List.length_replicate, List.length_cons, List.length_nil]) <;> omega) (by (try dsimp only) <;> (try simp only [wrL, List.length_map, List.length_append, List.length_take, List.length_drop, List.length_replicate, List.length_cons, List.length_nil]) <;> omega) ?_
      (repeat ((refine r_op ?_; refine r_pure hT rfl rfl rfl rfl rfl rfl ?_)))
      refine r_loadS (row := y.row) hT rfl rfl rfl rfl rfl rfl rfl rfl (by show (l.map Vt.row)[((a : Int)).toNat]? = _; rw [Int.toNat_natCast, List.getElem?_map, hy]; rfl) rfl rfl rfl ?_
      (repeat ((refine r_op ?_; first | refine r_pure hT rfl rfl rfl rfl rfl rfl ?_ | refine r_load hT rfl rfl rfl rfl rfl rfl rfl rfl rfl ?_)))
      refine r_case (d := 20) rfl (fun c2 => ?_) (fun c2 => ?_)
      · rw [c2, Bool.true_or] at hve
        (repeat (first | refine r_end ?_ | (refine r_op ?_; first | refine r_pure hT rfl rfl rfl rfl rfl rfl ?_ | refine r_off rfl rfl rfl rfl rfl ?_) | refine gi_plain ?_ | refine gi_skip ?_ | refine gi_block ?_ | refine gi_inBlock ?_ | (refine gi_cnd ?_; first | refine gi_true rfl ?_ | refine gi_false rfl ?_)))
        exact more hve _ _ _ ⟨rfl, rfl, rfl, trivial⟩ ⟨rfl, trivial⟩ ⟨rfl, trivial⟩
      · rw [c2, Bool.false_or] at hve
        (repeat ((refine r_op ?_; refine r_pure hT rfl rfl rfl rfl rfl rfl ?_)))
        refine r_idxS hT rfl rfl rfl rfl rfl rfl rfl rfl rfl rfl rfl rfl rfl (by (try dsimp only) <;> (try simp only [wrL, List.length_map, List.length_append, List.length_take, List.length_drop, List.length_replicate, List.length_cons, List.length_nil]) <;> omega) (by (try dsimp only) <;> (try simp only [wrL, List.length_map, List.length_append, List.length_take, List.length_drop, List.length_replicate, List.length_cons, List.length_nil]) <;> omega) ?_
        (repeat ((refine r_op ?_; refine r_pure hT rfl rfl rfl rfl rfl rfl ?_)))
        refine r_loadS (row := y.row) hT rfl rfl rfl rfl rfl rfl rfl rfl (by show (l.map Vt.row)[((a : Int)).toNat]? = _; rw [Int.toNat_natCast, List.getElem?_map, hy]; rfl) rfl rfl rfl ?_
        (repeat ((refine r_op ?_; first | refine r_pure hT rfl rfl rfl rfl rfl rfl ?_ | refine r_load hT rfl rfl rfl rfl rfl rfl rfl rfl rfl ?_)))
        refine r_case (d := 29) rfl (fun c3 => ?_) (fun c3 => ?_)
        · rw [c3, Bool.true_and] at hve
          (repeat ((refine r_op ?_; refine r_pure hT rfl rfl rfl rfl rfl rfl ?_)))
          refine r_idxS hT rfl rfl rfl rfl rfl rfl rfl rfl rfl rfl rfl rfl rfl (by (try dsimp only) <;> (try simp only [wrL, List.length_map, List.length_append, List.length_take, List.length_drop, List.length_replicate, List.length_cons, List.length_nil]) <;> omega) (by (try dsimp only) <;> (try simp only [wrL, List.length_map, List.length_append, List.length_take, List.length_drop, List.length_replicate, List.length_cons, List.length_nil]) <;> omega) ?_
          (repeat ((refine r_op ?_; refine r_pure hT rfl rfl rfl rfl rfl rfl ?_)))
          refine r_loadS (row := y.row) hT rfl rfl rfl rfl rfl rfl rfl rfl (by show (l.map Vt.row)[((a : Int)).toNat]? = _; rw [Int.toNat_natCast, List.getElem?_map, hy]; rfl) rfl rfl rfl ?_
          (repeat (first | refine r_end ?_ | (refine r_op ?_; first | refine r_pure hT rfl rfl rfl rfl rfl rfl ?_ | refine r_load hT rfl rfl rfl rfl rfl rfl rfl rfl rfl ?_)))
          refine gi_cond rfl (fun c4 => ?_) (fun c4 => ?_)
          · rw [c4] at hve
            (repeat (first | refine r_end ?_ | (refine r_op ?_; refine r_pure hT rfl rfl rfl rfl rfl rfl ?_) | refine gi_plain ?_ | refine gi_skip ?_ | refine gi_block ?_ | refine gi_inBlock ?_))
            exact more hve _ _ _ ⟨rfl, rfl, rfl, trivial⟩ ⟨rfl, trivial⟩ ⟨rfl, trivial⟩
          · rw [c4] at hve
            (repeat (first | refine gi_seq ?_ | refine gi_exit rfl ?_))
            exact fin a _ _ _ ⟨hal, hlt, fun x hx => by rw [hy] at hx; cases hx; exact hve⟩ ⟨rfl, rfl, rfl, trivial⟩ ⟨rfl, trivial⟩ ⟨rfl, trivial⟩
        · rw [c3, Bool.false_and] at hve
          (repeat (first | refine r_end ?_ | (refine r_op ?_; first | refine r_pure hT rfl rfl rfl rfl rfl rfl ?_ | refine r_off rfl rfl rfl rfl rfl ?_) | refine gi_seq ?_ | refine gi_exit rfl ?_ | (refine gi_cnd ?_; first | refine gi_true rfl ?_ | refine gi_false rfl ?_)))
          exact fin a _ _ _ ⟨hal, hlt, fun x hx => by rw [hy] at hx; cases hx; exact hve⟩ ⟨rfl, rfl, rfl, trivial⟩ ⟨rfl, trivial⟩ ⟨rfl, trivial⟩
    · rw [ltB_eq, List.length_map] at c1
      have hao : ¬ a < l.length := by have := of_decide_eq_false c1; omega
      (repeat (first | refine r_end ?_ | (refine r_op ?_; first | refine r_pure hT rfl rfl rfl rfl rfl rfl ?_ | refine r_off rfl rfl rfl rfl rfl ?_) | refine gi_seq ?_ | refine gi_exit rfl ?_ | (refine gi_cnd ?_; first | refine gi_true rfl ?_ | refine gi_false rfl ?_)))
      exact fin a _ _ _ ⟨hal, hlt, fun x hx => by have := (List.getElem?_eq_some_iff.1 hx).1; omega⟩ ⟨rfl, rfl, rfl, trivial⟩ ⟨rfl, trivial⟩ ⟨rfl, trivial⟩
  case after =>
    rintro a ⟨hal, hlt, hge⟩
    have hins := insV_at hal hlt hge
    apply gi_cut (σ := Unit) (fun _ => [(5, I a), (3, .box 0 0), (0, .sl 0)]) (fun _ => [hV v]) (fun _ => [eV l]) (fun _ => l[a]? ≠ some v) (fun _ => rfl)
    case first =>
      intro fin
      skip
      refine gi_drawM [] [(0, .p), (1, .p), (2, .p), (3, .p), (4, .p), (5, .p), (6, .p), (7, .p), (8, .t), (9, .t), (10, .p), (11, .p)] [0, 0, 2, 5, 8, 16, 16, 112, 144, 16, 784, 1040] [0, 0, 2, 5, 8, 16, 16, 112, 144, 16, 784, 1040] hm rfl (by kernel_rfl) (fun w1 K => ?_)
      (repeat ((refine r_op ?_; refine r_pure hT rfl rfl rfl rfl rfl rfl ?_)))
      refine r_case (d := 47) rfl (fun c1 => ?_) (fun c1 => ?_)
      · rw [ltB_eq, List.length_map] at c1
        have hao : a < l.length := by have := of_decide_eq_true c1; omega
        obtain ⟨y, hy⟩ : ∃ y, l[a]? = some y := ⟨_, List.getElem?_eq_getElem hao⟩
        (repeat ((refine r_op ?_; refine r_pure hT rfl rfl rfl rfl rfl rfl ?_)))
        refine r_idxS hT rfl rfl rfl rfl rfl rfl rfl rfl rfl rfl rfl rfl rfl (by (try dsimp only) <;> (try simp only [wrL, List.length_map, List.length_append, List.length_take, List.length_drop, List.length_replicate, List.length_cons, List.length_nil]) <;> omega) (by (try dsimp only) <;> (try simp only [wrL, List.length_map, List.length_append, List.length_take, List.length_drop, List.length_replicate, List.length_cons, List.length_nil]) <;> omega) ?_
        skip
        refine r_loadS (row := y.row) hT rfl rfl rfl rfl rfl rfl rfl rfl (by show (l.map Vt.row)[((a : Int)).toNat]? = _; rw [Int.toNat_natCast, List.getElem?_map, hy]; rfl) rfl rfl rfl ?_
        (repeat ((refine r_op ?_; refine r_load hT rfl rfl rfl rfl rfl rfl rfl rfl rfl ?_)))
        refine r_eqT _ rfl rfl rfl rfl rfl rfl rfl rfl rfl y_flat_Vt ?_
        (repeat (first | refine r_end ?_ | (refine r_op ?_; refine r_pure hT rfl rfl rfl rfl rfl rfl ?_)))
        refine gi_cond rfl (fun c4 => ?_) (fun c4 => ?_)
        · rw [veq_eq] at c4
          have hyv := of_decide_eq_true c4
          subst hyv
          rw [hy, if_pos rfl] at hins
          (repeat (first | refine r_end ?_ | (refine r_op ?_; refine r_pure hT rfl rfl rfl rfl rfl rfl ?_) | refine gi_seq ?_ | refine gi_plain ?_))
          refine gi_retX hT Try.func52 rfl [] [0] rfl rfl rfl rfl rfl rfl rfl rfl ?_
          exact ⟨rfl, rfl, by rw [hins]⟩
        · rw [veq_eq] at c4
          have hyv := of_decide_eq_false c4
          (repeat (first | refine gi_seq ?_ | refine gi_skip ?_))
          exact fin () _ _ _ (by rw [hy]; intro e; exact hyv (Option.some.inj e)) ⟨rfl, rfl, rfl, trivial⟩ ⟨rfl, trivial⟩ ⟨rfl, trivial⟩
      · rw [ltB_eq, List.length_map] at c1
        have hao : ¬ a < l.length := by have := of_decide_eq_false c1; omega
        (repeat (first | refine r_end ?_ | (refine r_op ?_; first | refine r_pure hT rfl rfl rfl rfl rfl rfl ?_ | refine r_off rfl rfl rfl rfl rfl ?_) | refine gi_seq ?_ | refine gi_skip ?_ | (refine gi_cnd ?_; first | refine gi_true rfl ?_ | refine gi_false rfl ?_)))
        exact fin () _ _ _ (by intro e; have := (List.getElem?_eq_some_iff.1 e).1; omega) ⟨rfl, rfl, rfl, trivial⟩ ⟨rfl, trivial⟩ ⟨rfl, trivial⟩
    case after =>
      intro _ hne
      rw [if_neg hne] at hins
      (repeat (first | (refine r_op ?_; first | refine r_pure hT rfl rfl rfl rfl rfl rfl ?_ | refine r_lit hT rfl rfl rfl rfl rfl rfl rfl rfl rfl rfl rfl rfl rfl ?_) | refine gi_plain ?_))
      refine r_append hT rfl rfl rfl rfl rfl rfl rfl rfl rfl rfl rfl rfl rfl rfl rfl rfl rfl ?_ ?_
      · simp only [List.length_cons, List.length_nil, List.length_map, maxLen]
        constructor
        · omega
        · show _ * 16 ≤ _
          omega
      (repeat (first | refine r_end ?_ | (refine r_op ?_; refine r_pure hT rfl rfl rfl rfl rfl rfl ?_) | refine gi_seq ?_ | refine gi_plain ?_ | refine gi_block ?_))
      have hRl : (l.map Vt.row).length = l.length := List.length_map _
      refine gi_pick [0] [0] rfl rfl rfl rfl rfl ?_
      refine gi_loop (σ := Nat) (fun k => [(6, I k), (5, I a), (3, .box 0 0), (0, .sl 0)]) (fun _ => [hV v]) (fun k => [eVr ((l.map Vt.row ++ [zV]).take (k + 1) ++ (l.map Vt.row).drop k)]) (fun k => a ≤ k ∧ k ≤ l.length) (fun k => k) l.length ⟨hal, Nat.le_refl _⟩ ⟨?_, rfl, rfl, rfl, trivial⟩ ⟨rfl, trivial⟩ ⟨?_, trivial⟩ (fun _ => rfl) (fun k hk next => ?_)
      · show some (I (wr .i64 (((l.map Vt.row ++ [zV]).length : Int) - 1))) = _
        rw [List.length_append, hRl, wr_i64 (by simp <;> omega) (by simp <;> omega)]
        simp
      · rw [← hRl, sh0]
      obtain ⟨hk1, hk2⟩ := hk
      have hLl : ∀ k, k ≤ l.length → ((l.map Vt.row ++ [zV]).take (k + 1) ++ (l.map Vt.row).drop k).length = l.length + 1 := fun k hk => by simp; omega
      (repeat (first | refine r_end ?_ | (refine r_op ?_; refine r_pure hT rfl rfl rfl rfl rfl rfl ?_) | refine gi_seq ?_ | refine gi_plain ?_))
      refine gi_lt rfl (fun h4 => ?_) (fun h4 => ?_)
      · obtain ⟨k', rfl⟩ : ∃ k', k = k' + 1 := ⟨k - 1, by omega⟩
        have hko : k' < l.length := by omega
        obtain ⟨y, hy⟩ : ∃ y, l[k']? = some y := ⟨_, List.getElem?_eq_getElem hko⟩
        have hyr : (l.map Vt.row)[k']? = some y.row := by rw [List.getElem?_map, hy]; rfl
        have e1 : wr .i64 (((k' + 1 : Nat) : Int) - 1) = k' := by rw [wr_i64 (by omega) (by omega)]; omega
        have e2 : (((k' + 1 : Nat) : Int)).toNat = k' + 1 := Int.toNat_natCast _
        (repeat (first | (refine r_op ?_; refine r_pure hT rfl rfl rfl rfl rfl rfl ?_) | refine gi_seq ?_ | refine gi_plain ?_ | refine gi_skip ?_ | refine gi_block ?_))
        refine r_turn (d := 72) (y := I k') rfl (by rw [← e1]) ?_
        refine r_idxS hT rfl rfl rfl rfl rfl rfl rfl rfl rfl rfl rfl rfl rfl (show (0 : Int) ≤ k' by omega) (by show ((k' : Int)).toNat < List.length _; rw [hLl _ hk2]; omega) ?_
        skip
        refine r_loadS (row := y.row) hT rfl rfl rfl rfl rfl rfl rfl rfl (by show (List.append _ _)[((k' : Int)).toNat]? = _; rw [Int.toNat_natCast]; exact (sh_get1 (by rw [hRl]; exact hko)).trans hyr) rfl rfl rfl ?_
        skip
        refine r_idxS hT rfl rfl rfl rfl rfl rfl rfl rfl rfl rfl rfl rfl rfl (show (0 : Int) ≤ ((k' + 1 : Nat) : Int) by omega) (by show (((k' + 1 : Nat) : Int)).toNat < List.length _; rw [e2, hLl _ hk2]; omega) ?_
        skip
        obtain ⟨rw0, hrw0, hset⟩ := sh_row l (k' + 1) hk2
        refine r_storeS (row := rw0) hT rfl rfl rfl rfl rfl rfl rfl rfl rfl rfl rfl rfl rfl (by show (List.append _ _)[(((k' + 1 : Nat) : Int)).toNat]? = _; rw [e2]; exact hrw0) ?_
        (repeat (first | refine r_end ?_ | (refine r_op ?_; refine r_pure hT rfl rfl rfl rfl rfl rfl ?_) | refine gi_plain ?_ | refine gi_inBlock ?_))
        refine next k' _ _ _ ⟨by omega, by omega⟩ (by omega) ⟨?_, rfl, rfl, rfl, trivial⟩ ⟨rfl, trivial⟩ ⟨?_, trivial⟩
        · show some (I (wr .i64 (((k' + 1 : Nat) : Int) - 1))) = _
          rw [e1]
        · refine congrArg (fun L => some (⟨34, 2, L, false⟩ : SE)) ?_
          symm
          show List.set (List.append _ _) (((k' + 1 : Nat) : Int)).toNat (setR rw0 0 y.row) = _
          rw [e2, hset]
          exact sh_step hyr
      · have hka : k = a := by omega
        subst hka
        (repeat (first | (refine r_op ?_; first | refine r_pure hT rfl rfl rfl rfl rfl rfl ?_ | refine r_load hT rfl rfl rfl rfl rfl rfl rfl rfl rfl ?_) | refine gi_seq ?_ | refine gi_plain ?_ | refine gi_exit rfl ?_))
        obtain ⟨rw0, hrw0, hset⟩ := sh_row l k hk2
        refine r_idxS hT rfl rfl rfl rfl rfl rfl rfl rfl rfl rfl rfl rfl rfl (show (0 : Int) ≤ k by omega) (by show ((k : Int)).toNat < List.length _; rw [Int.toNat_natCast, hLl _ hk2]; omega) ?_
        skip
        refine r_storeS (row := rw0) hT rfl rfl rfl rfl rfl rfl rfl rfl rfl rfl rfl rfl rfl (by show (List.append _ _)[((k : Int)).toNat]? = _; rw [Int.toNat_natCast]; exact hrw0) ?_
        (repeat (first | refine r_end ?_ | (refine r_op ?_; refine r_pure hT rfl rfl rfl rfl rfl rfl ?_) | refine gi_seq ?_ | refine gi_plain ?_))
        refine gi_retX hT Try.func52 rfl [] [0] rfl rfl rfl rfl rfl rfl rfl rfl ?_
        refine ⟨rfl, rfl, ?_⟩
        refine congrArg (fun L => [some (⟨34, 2, L, false⟩ : SE)]) ?_
        show List.set (List.append _ _) ((k : Int)).toNat (setR rw0 0 v.row) = List.map Vt.row (insV l v)
        rw [Int.toNat_natCast, hset, hins]
        refine (sh_end (by rw [hRl]; exact hk2)).trans ?_
        simp
end Go.Proofs.Ytmocggibcniggaa.Kt
namespace Go.Proofs.Ytmocggibcniggaa.Kt
open Go Kw Go.Proofs
attribute [local irreducible] Kw.GI Kw.GR Kw.FnR Kw.FnX
set_option maxHeartbeats 8000000
set_option maxRecDepth 100000
def isV (v : Vt) (x : Ls) : Bool := (decide (v.k = 1) && (decide (x.kind = 1) && decide (x.id = x.adv))) || (decide (v.k = 2) && decide (x.kind = 2))
def fdS (v : Vt) (m : Option Ls) (x : Ls) : Option Ls := if decide (x.age < 3600) && (isV v x && (decide (x.id = v.i) && (!m.isSome || decide (x.adv < (m.getD zLs).adv)))) then some x else m
def findL (l : List Ls) (v : Vt) : Option Ls := l.foldl (fdS v) none
theorem fold_take {α β : Type} (f : β → α → β) (b : β) {l : List α} {j : Nat} {x : α} (h : l[j]? = some x) : (l.take (j + 1)).foldl f b = f ((l.take j).foldl f b) x := by
  rw [take_snoc h, List.foldl_append]; rfl
abbrev hLs (x : Ls) : Option (TypeId × List AV) := some (51, x.cells)
abbrev zC : List AV := [I 0, I 0, I 0, I 0, I 0, I 0, I 0, I 0, .r (.v (.slice none 0 0)), I 0, .r (.v (.slice none 0 0)), .r (.v (.slice none 0 0))]
theorem isV_eq (v : Vt) (x : Ls) : isV v x = ((eqB v.k 1 && (eqB x.kind 1 && eqB x.id x.adv)) || (eqB v.k 2 && eqB x.kind 2)) := by
  unfold isV
  simp only [eqB_eq, Bool.beq_eq_decide_eq]
theorem fdS_eq (v : Vt) (m : Option Ls) (x : Ls) : fdS v m x = match ltB x.age 3600 && (isV v x && (eqB x.id v.i && (notB m.isSome || ltB x.adv (m.getD zLs).adv))) with
    | true => some x
    | false => m := by
  unfold fdS
  simp only [eqB_eq, ltB_eq, notB_eq, Bool.beq_eq_decide_eq]
  cases (decide (x.age < 3600) && (isV v x && (decide (x.id = v.i) && (!m.isSome || decide (x.adv < (m.getD zLs).adv))))) <;> rfl
abbrev hHd (x : Ls) : Option (TypeId × List AV) := some (48, [I x.age, I x.kind, I x.id, I x.adv, I x.seq, I x.sum, I x.len])
theorem stLL_K : ∀ (l : List Lk), stLL (l.map Lk.row) = true
  | [] => rfl
  | c :: l => by
    show (stL (Lk.row c) && stLL (l.map Lk.row)) = true
    rw [stLL_K l]; rfl
theorem stLL_N : ∀ (l : List Int), stLL (l.map nRow) = true
  | [] => rfl
  | c :: l => by
    show (stL (nRow c) && stLL (l.map nRow)) = true
    rw [stLL_N l]; rfl
theorem stS_nil : StS [] := fun e he s hs => by cases he
theorem st_ls (x : Ls) (b : Bool) : stA (.tup [x.av, Bo b]) = true := by
  show ((stLL (x.lk.map Lk.row) && (true && (stLL (x.rt.map nRow) && (stLL (x.vt.map Vt.row) && true)))) && true) = true
  rw [stLL_K, stLL_N, stLL_V]; rfl
theorem pFd {x : Ls} {b : Bool} : ∀ r H1 S1, (H1 = [] ∧ r = .tup [x.av, Bo b] ∧ S1 = []) → stA r = true ∧ StH H1 ∧ StS S1 := by
  rintro r H S ⟨rfl, rfl, rfl⟩
  exact ⟨st_ls x b, StH.nil, stS_nil⟩
theorem find_ok (l : List Ls) (v : Vt) (hl : l.length < 1000000) : FnR Try.prog 45 [fsL l, v.av] (fun r S => r = .tup [((findL l v).getD zLs).av, Bo (findL l v).isSome] ∧ S = []) := by
  refine fnR_intro (T := TT) (n := 79) Try.func45 rfl rfl rfl (fun w Z => ?_)
  (repeat (first | refine r_end ?_ | (refine r_op ?_; first | refine r_pure hT rfl rfl rfl rfl rfl rfl ?_ | refine r_box rfl rfl rfl rfl rfl rfl rfl rfl rfl ?_ | refine r_store hT rfl rfl rfl rfl rfl rfl rfl rfl rfl rfl ?_ | refine r_alloc hT rfl rfl rfl rfl rfl rfl rfl rfl rfl ?_) | refine gi_seq ?_ | refine gi_plain ?_ | refine gi_block ?_))
  refine gi_thaw 0 rfl ?_
  refine gi_nilH 2 8 4 rfl rfl ?_
  refine gi_nilH 2 10 1 rfl rfl ?_
  refine gi_nilH 2 11 2 rfl rfl ?_
  refine gi_loop (σ := Nat) (fun j => [(8, I j), (7, Bo ((l.take j).foldl (fdS v) none).isSome), (6, .box 2 0), (4, .box 1 0), (3, .box 0 0), (0, .r (.rs 12 (l.map Ls.row)))]) (fun j => [hV v, some (51, zC), hLs (((l.take j).foldl (fdS v) none).getD zLs)]) (fun _ => []) (fun j => j ≤ l.length) (fun j => l.length - j) 0 (Nat.zero_le _) ⟨rfl, rfl, rfl, rfl, rfl, rfl, trivial⟩ ⟨rfl, rfl, rfl, trivial⟩ trivial (fun _ => rfl) (fun j hj next => ?_)
  have hj : j ≤ l.length := hj
  (repeat (first | refine r_end ?_ | (refine r_op ?_; refine r_pure hT rfl rfl rfl rfl rfl rfl ?_) | refine gi_seq ?_ | refine gi_plain ?_))
  refine gi_lt (q := ((l.map Ls.row).length : Int)) rfl (fun h3 => ?_) (fun h3 => ?_)
  · rw [List.length_map] at h3
    have hjl : j < l.length := by omega
    obtain ⟨x, hx⟩ : ∃ x, l[j]? = some x := ⟨_, List.getElem?_eq_getElem hjl⟩
    have hft := fold_take (fdS v) none hx
    obtain ⟨m, hm⟩ : ∃ m, m = (l.take j).foldl (fdS v) none := ⟨_, rfl⟩
    rw [← hm] at hft
    rw [← hm]
    (repeat (first | (refine r_op ?_; refine r_pure hT rfl rfl rfl rfl rfl rfl ?_) | refine gi_seq ?_ | refine gi_plain ?_ | refine gi_skip ?_ | refine gi_block ?_))
    refine r_idx (row := x.row) hT rfl rfl rfl rfl rfl rfl rfl rfl rfl rfl rfl rfl (by omega) (by simp [hx]) ?_
    (repeat (first | refine r_end ?_ | (refine r_op ?_; first | refine r_pure hT rfl rfl rfl rfl rfl rfl ?_ | refine r_load hT rfl rfl rfl rfl rfl rfl rfl rfl rfl ?_ | refine r_store hT rfl rfl rfl rfl rfl rfl rfl rfl rfl rfl ?_ | refine r_alloc hT rfl rfl rfl rfl rfl rfl rfl rfl rfl ?_) | refine gi_seq ?_))
    apply gi_cut (σ := Unit) (fun _ => [(10, Bo (isV v x)), (9, .box 3 0), (8, I j), (7, Bo m.isSome), (6, .box 2 0), (4, .box 1 0), (3, .box 0 0), (0, .r (.rs 12 (l.map Ls.row)))]) (fun _ => [hV v, some (51, zC), hLs (m.getD zLs), hHd x]) (fun _ => []) (fun _ => True) (fun _ => rfl)
    case first =>
      intro fin
      have hiv := isV_eq v x
      (repeat (first | (refine r_op ?_; first | refine r_pure hT rfl rfl rfl rfl rfl rfl ?_ | refine r_load hT rfl rfl rfl rfl rfl rfl rfl rfl rfl ?_) | refine gi_plain ?_))
      refine r_case (d := 26) rfl (fun c1 => ?_) (fun c1 => ?_)
      · (repeat ((refine r_op ?_; first | refine r_pure hT rfl rfl rfl rfl rfl rfl ?_ | refine r_load hT rfl rfl rfl rfl rfl rfl rfl rfl rfl ?_)))
        refine r_case (d := 31) rfl (fun c2 => ?_) (fun c2 => ?_)
        · (repeat ((refine r_op ?_; first | refine r_pure hT rfl rfl rfl rfl rfl rfl ?_ | refine r_load hT rfl rfl rfl rfl rfl rfl rfl rfl rfl ?_)))
          refine r_case (d := 38) rfl (fun c3 => ?_) (fun c3 => ?_)
          · rw [c1, c2, c3] at hiv
            (repeat (first | refine r_end ?_ | (refine r_op ?_; first | refine r_pure hT rfl rfl rfl rfl rfl rfl ?_ | refine r_off rfl rfl rfl rfl rfl ?_) | refine gi_seq ?_))
            exact fin () _ _ _ trivial ⟨by rw [hiv]; rfl, rfl, rfl, rfl, rfl, rfl, rfl, rfl, trivial⟩ ⟨rfl, rfl, rfl, rfl, trivial⟩ trivial
          · (repeat ((refine r_op ?_; first | refine r_pure hT rfl rfl rfl rfl rfl rfl ?_ | refine r_load hT rfl rfl rfl rfl rfl rfl rfl rfl rfl ?_)))
            refine r_case (d := 42) rfl (fun c4 => ?_) (fun c4 => ?_)
            · rw [c1, c2, c3, c4] at hiv
              (repeat (first | refine r_end ?_ | (refine r_op ?_; first | refine r_pure hT rfl rfl rfl rfl rfl rfl ?_ | refine r_load hT rfl rfl rfl rfl rfl rfl rfl rfl rfl ?_) | refine gi_seq ?_))
              exact fin () _ _ _ trivial ⟨by rw [hiv]; rfl, rfl, rfl, rfl, rfl, rfl, rfl, rfl, trivial⟩ ⟨rfl, rfl, rfl, rfl, trivial⟩ trivial
            · rw [c1, c2, c3, c4] at hiv
              (repeat (first | refine r_end ?_ | (refine r_op ?_; first | refine r_pure hT rfl rfl rfl rfl rfl rfl ?_ | refine r_off rfl rfl rfl rfl rfl ?_) | refine gi_seq ?_))
              exact fin () _ _ _ trivial ⟨by rw [hiv]; rfl, rfl, rfl, rfl, rfl, rfl, rfl, rfl, trivial⟩ ⟨rfl, rfl, rfl, rfl, trivial⟩ trivial
        · (repeat ((refine r_op ?_; first | refine r_pure hT rfl rfl rfl rfl rfl rfl ?_ | refine r_load hT rfl rfl rfl rfl rfl rfl rfl rfl rfl ?_ | refine r_off rfl rfl rfl rfl rfl ?_)))
          refine r_case (d := 42) rfl (fun c4 => ?_) (fun c4 => ?_)
          · rw [c1, c2, c4] at hiv
            (repeat (first | refine r_end ?_ | (refine r_op ?_; first | refine r_pure hT rfl rfl rfl rfl rfl rfl ?_ | refine r_load hT rfl rfl rfl rfl rfl rfl rfl rfl rfl ?_) | refine gi_seq ?_))
            exact fin () _ _ _ trivial ⟨by rw [hiv]; rfl, rfl, rfl, rfl, rfl, rfl, rfl, rfl, trivial⟩ ⟨rfl, rfl, rfl, rfl, trivial⟩ trivial
          · rw [c1, c2, c4] at hiv
            (repeat (first | refine r_end ?_ | (refine r_op ?_; first | refine r_pure hT rfl rfl rfl rfl rfl rfl ?_ | refine r_off rfl rfl rfl rfl rfl ?_) | refine gi_seq ?_))
            exact fin () _ _ _ trivial ⟨by rw [hiv]; rfl, rfl, rfl, rfl, rfl, rfl, rfl, rfl, trivial⟩ ⟨rfl, rfl, rfl, rfl, trivial⟩ trivial
      · (repeat ((refine r_op ?_; first | refine r_pure hT rfl rfl rfl rfl rfl rfl ?_ | refine r_load hT rfl rfl rfl rfl rfl rfl rfl rfl rfl ?_ | refine r_off rfl rfl rfl rfl rfl ?_)))
        refine r_case (d := 42) rfl (fun c4 => ?_) (fun c4 => ?_)
        · rw [c1, c4] at hiv
          (repeat (first | refine r_end ?_ | (refine r_op ?_; first | refine r_pure hT rfl rfl rfl rfl rfl rfl ?_ | refine r_load hT rfl rfl rfl rfl rfl rfl rfl rfl rfl ?_) | refine gi_seq ?_))
          exact fin () _ _ _ trivial ⟨by rw [hiv]; rfl, rfl, rfl, rfl, rfl, rfl, rfl, rfl, trivial⟩ ⟨rfl, rfl, rfl, rfl, trivial⟩ trivial
        · rw [c1, c4] at hiv
          (repeat (first | refine r_end ?_ | (refine r_op ?_; first | refine r_pure hT rfl rfl rfl rfl rfl rfl ?_ | refine r_off rfl rfl rfl rfl rfl ?_) | refine gi_seq ?_))
          exact fin () _ _ _ trivial ⟨by rw [hiv]; rfl, rfl, rfl, rfl, rfl, rfl, rfl, rfl, trivial⟩ ⟨rfl, rfl, rfl, rfl, trivial⟩ trivial
    case after =>
      intro _ _
      have hfd := fdS_eq v m x
      have hnext : ∀ m', fdS v m x = m' → ∀ F1 H1 S1, SubF [(8, I (wr .i64 ((j : Int) + 1))), (7, Bo m'.isSome), (6, .box 2 0), (4, .box 1 0), (3, .box 0 0), (0, .r (.rs 12 (l.map Ls.row)))] F1 → SubH [hV v, some (51, zC), hLs (m'.getD zLs)] H1 → SubS [] S1 → GI _ _ F1 H1 S1 := fun m' hm' F1 H1 S1 hF hH hS => by
        refine next (j + 1) F1 H1 S1 hjl (by omega) ?_ (by rw [hft, hm']; exact hH) hS
        rw [hft, hm']
        rw [wr_i64 (by omega) (by omega)] at hF
        simpa using hF
      have hno : fdS v m x = m → ∀ F1 H1 S1, SubF [(8, I (wr .i64 ((j : Int) + 1))), (7, Bo m.isSome), (6, .box 2 0), (4, .box 1 0), (3, .box 0 0), (0, .r (.rs 12 (l.map Ls.row)))] F1 → SubH [hV v, some (51, zC), hLs (m.getD zLs)] H1 → SubS [] S1 → GI _ _ F1 H1 S1 := hnext m
      (repeat (first | (refine r_op ?_; first | refine r_pure hT rfl rfl rfl rfl rfl rfl ?_ | refine r_load hT rfl rfl rfl rfl rfl rfl rfl rfl rfl ?_) | refine gi_plain ?_))
      refine r_case (d := 51) rfl (fun d1 => ?_) (fun d1 => ?_)
      · (repeat ((refine r_op ?_; refine r_pure hT rfl rfl rfl rfl rfl rfl ?_)))
        refine r_case (d := 54) rfl (fun d2 => ?_) (fun d2 => ?_)
        · (repeat ((refine r_op ?_; first | refine r_pure hT rfl rfl rfl rfl rfl rfl ?_ | refine r_load hT rfl rfl rfl rfl rfl rfl rfl rfl rfl ?_)))
          refine r_case (d := 61) rfl (fun d3 => ?_) (fun d3 => ?_)
          · (repeat ((refine r_op ?_; refine r_pure hT rfl rfl rfl rfl rfl rfl ?_)))
            refine r_case (d := 64) rfl (fun d4 => ?_) (fun d4 => ?_)
            · rw [d1, d2, d3, d4] at hfd
              (repeat (first | refine r_end ?_ | (refine r_op ?_; first | refine r_pure hT rfl rfl rfl rfl rfl rfl ?_ | refine r_off rfl rfl rfl rfl rfl ?_) | refine gi_seq ?_ | refine gi_plain ?_ | (refine gi_cnd ?_; first | refine gi_true rfl ?_ | refine gi_false rfl ?_)))
              refine r_idx (row := x.row) hT rfl rfl rfl rfl rfl rfl rfl rfl rfl rfl rfl rfl (by omega) (by simp [hx]) ?_
              (repeat (first | refine r_end ?_ | (refine r_op ?_; first | refine r_pure hT rfl rfl rfl rfl rfl rfl ?_ | refine r_load hT rfl rfl rfl rfl rfl rfl rfl rfl rfl ?_ | refine r_store hT rfl rfl rfl rfl rfl rfl rfl rfl rfl rfl ?_) | refine gi_plain ?_ | refine gi_inBlock ?_))
              exact hnext (some x) (hfd.trans rfl) _ _ _ ⟨rfl, rfl, rfl, rfl, rfl, rfl, trivial⟩ ⟨rfl, rfl, rfl, trivial⟩ trivial
            · (repeat (first | refine r_end ?_ | (refine r_op ?_; first | refine r_pure hT rfl rfl rfl rfl rfl rfl ?_ | refine r_load hT rfl rfl rfl rfl rfl rfl rfl rfl rfl ?_)))
              refine gi_cond rfl (fun d5 => ?_) (fun d5 => ?_)
              · rw [d1, d2, d3, d4, d5] at hfd
                (repeat (first | (refine r_op ?_; refine r_pure hT rfl rfl rfl rfl rfl rfl ?_) | refine gi_seq ?_ | refine gi_plain ?_))
                refine r_idx (row := x.row) hT rfl rfl rfl rfl rfl rfl rfl rfl rfl rfl rfl rfl (by omega) (by simp [hx]) ?_
                (repeat (first | refine r_end ?_ | (refine r_op ?_; first | refine r_pure hT rfl rfl rfl rfl rfl rfl ?_ | refine r_load hT rfl rfl rfl rfl rfl rfl rfl rfl rfl ?_ | refine r_store hT rfl rfl rfl rfl rfl rfl rfl rfl rfl rfl ?_) | refine gi_plain ?_ | refine gi_inBlock ?_))
                exact hnext (some x) (hfd.trans rfl) _ _ _ ⟨rfl, rfl, rfl, rfl, rfl, rfl, trivial⟩ ⟨rfl, rfl, rfl, trivial⟩ trivial
              · rw [d1, d2, d3, d4, d5] at hfd
                (repeat (first | refine r_end ?_ | (refine r_op ?_; refine r_pure hT rfl rfl rfl rfl rfl rfl ?_) | refine gi_plain ?_ | refine gi_skip ?_ | refine gi_inBlock ?_))
                exact hno (hfd.trans rfl) _ _ _ ⟨rfl, rfl, rfl, rfl, rfl, rfl, trivial⟩ ⟨rfl, rfl, rfl, trivial⟩ trivial
          · rw [d1, d2, d3] at hfd
            (repeat (first | refine r_end ?_ | (refine r_op ?_; first | refine r_pure hT rfl rfl rfl rfl rfl rfl ?_ | refine r_off rfl rfl rfl rfl rfl ?_) | refine gi_plain ?_ | refine gi_skip ?_ | refine gi_inBlock ?_ | (refine gi_cnd ?_; first | refine gi_true rfl ?_ | refine gi_false rfl ?_)))
            exact hno (hfd.trans rfl) _ _ _ ⟨rfl, rfl, rfl, rfl, rfl, rfl, trivial⟩ ⟨rfl, rfl, rfl, trivial⟩ trivial
        · rw [d1, d2] at hfd
          (repeat (first | refine r_end ?_ | (refine r_op ?_; first | refine r_pure hT rfl rfl rfl rfl rfl rfl ?_ | refine r_off rfl rfl rfl rfl rfl ?_) | refine gi_plain ?_ | refine gi_skip ?_ | refine gi_inBlock ?_ | (refine gi_cnd ?_; first | refine gi_true rfl ?_ | refine gi_false rfl ?_)))
          exact hno (hfd.trans rfl) _ _ _ ⟨rfl, rfl, rfl, rfl, rfl, rfl, trivial⟩ ⟨rfl, rfl, rfl, trivial⟩ trivial
      · rw [d1] at hfd
        (repeat (first | refine r_end ?_ | (refine r_op ?_; first | refine r_pure hT rfl rfl rfl rfl rfl rfl ?_ | refine r_off rfl rfl rfl rfl rfl ?_) | refine gi_plain ?_ | refine gi_skip ?_ | refine gi_inBlock ?_ | (refine gi_cnd ?_; first | refine gi_true rfl ?_ | refine gi_false rfl ?_)))
        exact hno (hfd.trans rfl) _ _ _ ⟨rfl, rfl, rfl, rfl, rfl, rfl, trivial⟩ ⟨rfl, rfl, rfl, trivial⟩ trivial
  · rw [List.length_map] at h3
    have hjl : j = l.length := by omega
    subst hjl
    rw [List.take_length]
    (repeat (first | refine r_end ?_ | (refine r_op ?_; first | refine r_pure hT rfl rfl rfl rfl rfl rfl ?_ | refine r_load hT rfl rfl rfl rfl rfl rfl rfl rfl rfl ?_ | refine r_store hT rfl rfl rfl rfl rfl rfl rfl rfl rfl rfl ?_) | refine gi_seq ?_ | refine gi_plain ?_ | refine gi_exit rfl ?_))
    refine gi_retW hT Try.func45 rfl rfl [] rfl rfl rfl rfl ?_
    exact ⟨rfl, rfl⟩
end Go.Proofs.Ytmocggibcniggaa.Kt
namespace Go.Proofs.Ytmocggibcniggaa.Kt
open Go Kw Go.Proofs
attribute [local irreducible] Kw.GI Kw.GR Kw.FnR Kw.FnX
set_option maxHeartbeats 8000000
set_option maxRecDepth 100000
def bkP (k i : Int) (x : Lk) : Bool := decide (x.k = k) && decide (x.i = i)
def backL (l : List Lk) (k i : Int) : Option Lk := l.find? (bkP k i)
theorem bkP_eq (k i : Int) (x : Lk) : bkP k i x = (eqB x.k k && eqB x.i i) := by
  unfold bkP
  simp only [eqB_eq, Bool.beq_eq_decide_eq]
theorem backL_at {k i : Int} : ∀ {l : List Lk} {j : Nat} {x : Lk}, (∀ t, t < j → ∀ y, l[t]? = some y → bkP k i y = false) → l[j]? = some x → bkP k i x = true → backL l k i = some x
  | [], j, x, _, h, _ => by simp at h
  | y :: l, 0, x, _, h, hp => by
    simp at h; subst h
    unfold backL; rw [List.find?_cons, hp]
  | y :: l, j + 1, x, hn, h, hp => by
    have := hn 0 (by omega) y rfl
    unfold backL; rw [List.find?_cons, this]
    exact backL_at (l := l) (fun t ht z hz => hn (t + 1) (Nat.succ_lt_succ ht) z (by simpa using hz)) (by simpa using h) hp
theorem backL_none {k i : Int} {l : List Lk} (h : ∀ (t : Nat), ∀ y, l[t]? = some y → bkP k i y = false) : backL l k i = none := by
  unfold backL
  rw [List.find?_eq_none]
  intro y hy
  obtain ⟨t, ht⟩ := List.mem_iff_getElem?.1 hy
  rw [h t y ht]; decide
theorem back_ok (x : Ls) (k i : Int) (hl : x.lk.length < 1000000) : FnR Try.prog 76 [x.av, I k, I i] (fun r S => r = .tup [((backL x.lk k i).getD zLk).av, Bo (backL x.lk k i).isSome] ∧ S = []) := by
  refine fnR_intro (T := TT) (n := 40) Try.func76 rfl rfl rfl (fun w Z => ?_)
  (repeat (first | refine r_end ?_ | (refine r_op ?_; first | refine r_pure hT rfl rfl rfl rfl rfl rfl ?_ | refine r_box rfl rfl rfl rfl rfl rfl rfl rfl rfl ?_ | refine r_alloc hT rfl rfl rfl rfl rfl rfl rfl rfl rfl ?_) | refine gi_seq ?_ | refine gi_plain ?_ | refine gi_block ?_))
  refine gi_loop (σ := Nat) (fun j => [(8, I j), (7, Bo false), (6, .box 1 0), (3, .box 0 0), (1, I k), (2, I i)]) (fun _ => [hLs x, some (54, [I 0, I 0, I 0, I 0])]) (fun _ => []) (fun j => j ≤ x.lk.length ∧ ∀ t, t < j → ∀ y, x.lk[t]? = some y → bkP k i y = false) (fun j => x.lk.length - j) 0 ⟨Nat.zero_le _, fun t ht => absurd ht (Nat.not_lt_zero _)⟩ ⟨rfl, rfl, rfl, rfl, rfl, rfl, trivial⟩ ⟨rfl, rfl, trivial⟩ trivial (fun _ => rfl) (fun j hj next => ?_)
  obtain ⟨hj, hn⟩ := hj
  (repeat (first | refine r_end ?_ | (refine r_op ?_; first | refine r_pure hT rfl rfl rfl rfl rfl rfl ?_ | refine r_load hT rfl rfl rfl rfl rfl rfl rfl rfl rfl ?_) | refine gi_seq ?_ | refine gi_plain ?_))
  refine gi_lt (q := ((x.lk.map Lk.row).length : Int)) rfl (fun h3 => ?_) (fun h3 => ?_)
  · rw [List.length_map] at h3
    have hjl : j < x.lk.length := by omega
    obtain ⟨y, hy⟩ : ∃ y, x.lk[j]? = some y := ⟨_, List.getElem?_eq_getElem hjl⟩
    have hbe := bkP_eq k i y
    have no : bkP k i y = false → ∀ F1 H1 S1, SubF [(8, I (wr .i64 ((j : Int) + 1))), (7, Bo false), (6, .box 1 0), (3, .box 0 0), (1, I k), (2, I i)] F1 → SubH [hLs x, some (54, [I 0, I 0, I 0, I 0])] H1 → SubS [] S1 → GI _ _ F1 H1 S1 := fun hb F1 H1 S1 hF hH hS => by
      refine next (j + 1) F1 H1 S1 ⟨hjl, fun t ht z hz => ?_⟩ (by omega) ?_ hH hS
      · rcases Nat.lt_succ_iff_lt_or_eq.1 ht with ht | rfl
        · exact hn t ht z hz
        · rw [hy] at hz; cases hz; exact hb
      · rw [wr_i64 (by omega) (by omega)] at hF
        simpa using hF
    (repeat (first | (refine r_op ?_; first | refine r_pure hT rfl rfl rfl rfl rfl rfl ?_ | refine r_load hT rfl rfl rfl rfl rfl rfl rfl rfl rfl ?_) | refine gi_seq ?_ | refine gi_plain ?_ | refine gi_skip ?_ | refine gi_block ?_))
    refine r_thaw 17 rfl ?_
    refine r_idx (row := y.row) hT rfl rfl rfl rfl rfl rfl rfl rfl rfl rfl rfl rfl (by omega) (by simp [hy]) ?_
    (repeat ((refine r_op ?_; first | refine r_pure hT rfl rfl rfl rfl rfl rfl ?_ | refine r_load hT rfl rfl rfl rfl rfl rfl rfl rfl rfl ?_)))
    refine r_case (d := 24) rfl (fun c1 => ?_) (fun c1 => ?_)
    · (repeat ((refine r_op ?_; first | refine r_pure hT rfl rfl rfl rfl rfl rfl ?_ | refine r_load hT rfl rfl rfl rfl rfl rfl rfl rfl rfl ?_)))
      refine r_thaw 26 rfl ?_
      refine r_idx (row := y.row) hT rfl rfl rfl rfl rfl rfl rfl rfl rfl rfl rfl rfl (by omega) (by simp [hy]) ?_
      (repeat (first | refine r_end ?_ | (refine r_op ?_; first | refine r_pure hT rfl rfl rfl rfl rfl rfl ?_ | refine r_load hT rfl rfl rfl rfl rfl rfl rfl rfl rfl ?_)))
      refine gi_cond rfl (fun c2 => ?_) (fun c2 => ?_)
      · rw [c1, c2] at hbe
        have hb := backL_at hn hy (hbe.trans rfl)
        (repeat (first | (refine r_op ?_; first | refine r_pure hT rfl rfl rfl rfl rfl rfl ?_ | refine r_load hT rfl rfl rfl rfl rfl rfl rfl rfl rfl ?_) | refine gi_seq ?_ | refine gi_plain ?_))
        refine r_thaw 35 rfl ?_
        refine r_idx (row := y.row) hT rfl rfl rfl rfl rfl rfl rfl rfl rfl rfl rfl rfl (by omega) (by simp [hy]) ?_
        (repeat (first | refine r_end ?_ | (refine r_op ?_; first | refine r_pure hT rfl rfl rfl rfl rfl rfl ?_ | refine r_load hT rfl rfl rfl rfl rfl rfl rfl rfl rfl ?_ | refine r_store hT rfl rfl rfl rfl rfl rfl rfl rfl rfl rfl ?_)))
        refine gi_retW hT Try.func76 rfl rfl [] rfl rfl rfl rfl ?_
        rw [hb]
        exact ⟨rfl, rfl⟩
      · rw [c1, c2] at hbe
        (repeat (first | refine r_end ?_ | (refine r_op ?_; refine r_pure hT rfl rfl rfl rfl rfl rfl ?_) | refine gi_plain ?_ | refine gi_skip ?_ | refine gi_inBlock ?_))
        exact no (hbe.trans rfl) _ _ _ ⟨rfl, rfl, rfl, rfl, rfl, rfl, trivial⟩ ⟨rfl, rfl, trivial⟩ trivial
    · rw [c1] at hbe
      (repeat (first | refine r_end ?_ | (refine r_op ?_; first | refine r_pure hT rfl rfl rfl rfl rfl rfl ?_ | refine r_off rfl rfl rfl rfl rfl ?_) | refine gi_plain ?_ | refine gi_skip ?_ | refine gi_inBlock ?_ | (refine gi_cnd ?_; first | refine gi_true rfl ?_ | refine gi_false rfl ?_)))
      exact no (hbe.trans rfl) _ _ _ ⟨rfl, rfl, rfl, rfl, rfl, rfl, trivial⟩ ⟨rfl, rfl, trivial⟩ trivial
  · rw [List.length_map] at h3
    have hb : backL x.lk k i = none := backL_none (fun t y hy => hn t (by have := (List.getElem?_eq_some_iff.1 hy).1; omega) y hy)
    (repeat (first | refine r_end ?_ | (refine r_op ?_; first | refine r_pure hT rfl rfl rfl rfl rfl rfl ?_ | refine r_store hT rfl rfl rfl rfl rfl rfl rfl rfl rfl rfl ?_) | refine gi_seq ?_ | refine gi_plain ?_ | refine gi_exit rfl ?_))
    refine gi_retW hT Try.func76 rfl rfl [] rfl rfl rfl rfl ?_
    rw [hb]
    exact ⟨rfl, rfl⟩
end Go.Proofs.Ytmocggibcniggaa.Kt
namespace Go.Proofs.Ytmocggibcniggaa.Kt
open Go Kw Go.Proofs
attribute [local irreducible] Kw.GI Kw.GR Kw.FnR Kw.FnX
set_option maxHeartbeats 8000000
set_option maxRecDepth 100000
def vS1 (m : List Vt) (x : Ls) : List Vt := match eqB x.kind 1 && eqB x.id x.adv with
  | true => insV m ⟨1, x.id⟩
  | false => m
def vS2 (m : List Vt) (x : Ls) : List Vt := match eqB x.kind 2 with
  | true => insV m ⟨2, x.id⟩
  | false => m
def vS (m : List Vt) (x : Ls) : List Vt := match leB 3600 x.age with
  | true => m
  | false => vS2 (vS1 m x) x
def vertsL (l : List Ls) : List Vt := l.foldl vS []
theorem vS_len (m : List Vt) (x : Ls) : (vS m x).length ≤ m.length + 2 := by
  have h1 : (vS1 m x).length ≤ m.length + 1 := by
    unfold vS1; split
    · exact insV_len m
    · omega
  unfold vS
  split
  · omega
  · unfold vS2; split
    · have := insV_len (v := ⟨2, x.id⟩) (vS1 m x); omega
    · omega
theorem vfold_len : ∀ (l : List Ls) (m : List Vt), (l.foldl vS m).length ≤ m.length + 2 * l.length
  | [], m => by simp
  | x :: l, m => by
    rw [List.foldl_cons]
    have := vfold_len l (vS m x)
    have := vS_len m x
    simp only [List.length_cons]
    omega
theorem verts_ok (l : List Ls) (hl : l.length < 100000) : FnX Try.prog 44 [fsL l] [] [] (RV1 (eV (vertsL l))) := by
  refine fnX_intro (T := TT) (n := 44) Try.func44 rfl rfl rfl (fun w X Z Y B => ?_)
  (repeat (first | refine r_end ?_ | (refine r_op ?_; refine r_pure hT rfl rfl rfl rfl rfl rfl ?_) | refine gi_seq ?_ | refine gi_plain ?_ | refine gi_block ?_))
  refine gi_thaw 0 rfl ?_
  refine gi_adopt (e := 34) (sz := 2) 3 rfl ?_
  refine gi_loop (σ := Nat) (fun j => [(4, I j), (3, .sl 0), (0, .r (.rs 12 (l.map Ls.row)))]) (fun _ => []) (fun j => [eV (vertsL (l.take j))]) (fun j => j ≤ l.length) (fun j => l.length - j) 0 (Nat.zero_le _) ⟨rfl, rfl, rfl, trivial⟩ trivial ⟨rfl, trivial⟩ (fun _ => rfl) (fun j hj next => ?_)
  have hj : j ≤ l.length := hj
  (repeat (first | refine r_end ?_ | (refine r_op ?_; refine r_pure hT rfl rfl rfl rfl rfl rfl ?_) | refine gi_seq ?_ | refine gi_plain ?_))
  refine gi_lt (q := ((l.map Ls.row).length : Int)) rfl (fun h3 => ?_) (fun h3 => ?_)
  · rw [List.length_map] at h3
    have hjl : j < l.length := by omega
    obtain ⟨x, hx⟩ : ∃ x, l[j]? = some x := ⟨_, List.getElem?_eq_getElem hjl⟩
    have hft : vertsL (l.take (j + 1)) = vS (vertsL (l.take j)) x := fold_take vS [] hx
    have hml : (vertsL (l.take j)).length ≤ 2 * j := by
      have := vfold_len (l.take j) []
      rw [List.length_take] at this
      simp only [List.length_nil] at this
      have h2 : (vertsL (l.take j)).length ≤ 0 + 2 * min j l.length := this
      omega
    obtain ⟨m, hm⟩ : ∃ m, m = vertsL (l.take j) := ⟨_, rfl⟩
    rw [← hm] at hft hml
    rw [← hm]
    have fin : ∀ m', m' = vS m x → ∀ F1 H1 S1, SubF [(4, I (wr .i64 ((j : Int) + 1))), (3, .sl 0), (0, .r (.rs 12 (l.map Ls.row)))] F1 → SubH [] H1 → SubS [eV m'] S1 → GI _ _ F1 H1 S1 := fun m' h F1 H1 S1 hF hH hS => by
      refine next (j + 1) F1 H1 S1 hjl (by omega) ?_ hH (by rw [hft, ← h]; exact hS)
      rw [wr_i64 (by omega) (by omega)] at hF
      simpa using hF
    (repeat (first | (refine r_op ?_; refine r_pure hT rfl rfl rfl rfl rfl rfl ?_) | refine gi_seq ?_ | refine gi_plain ?_ | refine gi_skip ?_ | refine gi_block ?_))
    refine r_idx (row := x.row) hT rfl rfl rfl rfl rfl rfl rfl rfl rfl rfl rfl rfl (by omega) (by simp [hx]) ?_
    (repeat (first | refine r_end ?_ | (refine r_op ?_; first | refine r_pure hT rfl rfl rfl rfl rfl rfl ?_ | refine r_load hT rfl rfl rfl rfl rfl rfl rfl rfl rfl ?_ | refine r_store hT rfl rfl rfl rfl rfl rfl rfl rfl rfl rfl ?_ | refine r_alloc hT rfl rfl rfl rfl rfl rfl rfl rfl rfl ?_) | refine gi_seq ?_ | refine gi_plain ?_))
    refine gi_cond rfl (fun c1 => ?_) (fun c1 => ?_)
    · (repeat (first | refine r_end ?_ | (refine r_op ?_; refine r_pure hT rfl rfl rfl rfl rfl rfl ?_) | refine gi_plain ?_ | refine gi_exit rfl ?_))
      exact fin m (by unfold vS; rw [c1]) _ _ _ ⟨rfl, rfl, rfl, trivial⟩ trivial ⟨rfl, trivial⟩
    have hv1 : vS m x = vS2 (vS1 m x) x := by unfold vS; rw [c1]
    have hm1 : (vS1 m x).length ≤ m.length + 1 := by
      unfold vS1; split
      · exact insV_len m
      · omega
    apply gi_cut (σ := Unit) (fun _ => [(5, .box 0 0), (4, I j), (3, .sl 0), (0, .r (.rs 12 (l.map Ls.row)))]) (fun _ => [hHd x]) (fun _ => [eV (vS1 m x)]) (fun _ => True) (fun _ => rfl)
    case first =>
      intro fn
      (repeat (first | (refine r_op ?_; first | refine r_pure hT rfl rfl rfl rfl rfl rfl ?_ | refine r_load hT rfl rfl rfl rfl rfl rfl rfl rfl rfl ?_) | refine gi_seq ?_ | refine gi_plain ?_ | refine gi_skip ?_))
      refine r_case (d := 23) rfl (fun c2 => ?_) (fun c2 => ?_)
      · (repeat (first | refine r_end ?_ | (refine r_op ?_; first | refine r_pure hT rfl rfl rfl rfl rfl rfl ?_ | refine r_load hT rfl rfl rfl rfl rfl rfl rfl rfl rfl ?_)))
        refine gi_cond rfl (fun c3 => ?_) (fun c3 => ?_)
        · (repeat (first | (refine r_op ?_; first | refine r_pure hT rfl rfl rfl rfl rfl rfl ?_ | refine r_load hT rfl rfl rfl rfl rfl rfl rfl rfl rfl ?_) | refine gi_plain ?_))
          refine r_callX [] [0] (Vert_ok m ⟨1, x.id⟩ (by omega)) rfl rfl rfl rfl rfl rfl Try.func52 rfl rfl rfl rfl rfl rfl rfl pV1 ?_
          rintro r H1 S1 ⟨rfl, rfl, rfl⟩
          (repeat (first | refine r_end ?_ | (refine r_op ?_; refine r_pure hT rfl rfl rfl rfl rfl rfl ?_) | refine gi_seq ?_))
          refine gi_pick [0] [1] rfl rfl rfl rfl rfl ?_
          exact fn () _ _ _ trivial ⟨rfl, rfl, rfl, rfl, trivial⟩ ⟨rfl, trivial⟩ ⟨by unfold vS1; rw [c2, c3]; rfl, trivial⟩
        · (repeat (first | refine gi_seq ?_ | refine gi_skip ?_))
          exact fn () _ _ _ trivial ⟨rfl, rfl, rfl, rfl, trivial⟩ ⟨rfl, trivial⟩ ⟨by unfold vS1; rw [c2, c3]; rfl, trivial⟩
      · (repeat (first | refine r_end ?_ | (refine r_op ?_; first | refine r_pure hT rfl rfl rfl rfl rfl rfl ?_ | refine r_off rfl rfl rfl rfl rfl ?_) | refine gi_seq ?_ | refine gi_skip ?_ | (refine gi_cnd ?_; first | refine gi_true rfl ?_ | refine gi_false rfl ?_)))
        exact fn () _ _ _ trivial ⟨rfl, rfl, rfl, rfl, trivial⟩ ⟨rfl, trivial⟩ ⟨by unfold vS1; rw [c2]; rfl, trivial⟩
    case after =>
      intro _ _
      (repeat (first | refine r_end ?_ | (refine r_op ?_; first | refine r_pure hT rfl rfl rfl rfl rfl rfl ?_ | refine r_load hT rfl rfl rfl rfl rfl rfl rfl rfl rfl ?_) | refine gi_plain ?_))
      refine gi_cond rfl (fun c4 => ?_) (fun c4 => ?_)
      · (repeat (first | (refine r_op ?_; first | refine r_pure hT rfl rfl rfl rfl rfl rfl ?_ | refine r_load hT rfl rfl rfl rfl rfl rfl rfl rfl rfl ?_) | refine gi_plain ?_))
        refine r_callX [] [0] (Vert_ok (vS1 m x) ⟨2, x.id⟩ (by omega)) rfl rfl rfl rfl rfl rfl Try.func52 rfl rfl rfl rfl rfl rfl rfl pV1 ?_
        rintro r H1 S1 ⟨rfl, rfl, rfl⟩
        (repeat (first | refine r_end ?_ | (refine r_op ?_; refine r_pure hT rfl rfl rfl rfl rfl rfl ?_) | refine gi_plain ?_ | refine gi_inBlock ?_))
        refine gi_pick [] [1] rfl rfl rfl rfl rfl ?_
        exact fin _ (by rw [hv1]; unfold vS2; rw [c4]) _ _ _ ⟨rfl, rfl, rfl, trivial⟩ trivial ⟨rfl, trivial⟩
      · (repeat (first | refine r_end ?_ | (refine r_op ?_; refine r_pure hT rfl rfl rfl rfl rfl rfl ?_) | refine gi_plain ?_ | refine gi_skip ?_ | refine gi_inBlock ?_))
        exact fin _ (by rw [hv1]; unfold vS2; rw [c4]) _ _ _ ⟨rfl, rfl, rfl, trivial⟩ trivial ⟨rfl, trivial⟩
  · rw [List.length_map] at h3
    have hjl : j = l.length := by omega
    subst hjl
    rw [List.take_length]
    (repeat (first | refine r_end ?_ | (refine r_op ?_; refine r_pure hT rfl rfl rfl rfl rfl rfl ?_) | refine gi_seq ?_ | refine gi_plain ?_ | refine gi_exit rfl ?_))
    refine gi_retX hT Try.func44 rfl [] [0] rfl rfl rfl rfl rfl rfl rfl rfl ?_
    exact ⟨rfl, rfl, rfl⟩
end Go.Proofs.Ytmocggibcniggaa.Kt
namespace Go.Proofs.Ytmocggibcniggaa.Kt
open Go Kw Go.Proofs
attribute [local irreducible] Kw.GI Kw.GR Kw.FnR Kw.FnX
set_option maxHeartbeats 8000000
set_option maxRecDepth 100000
def edK1 (l : List Ls) (v : Vt) (k : Lk) : List Eg := match eqB k.k 1 with
  | true => (match (findL l ⟨1, k.i⟩).isSome && (backL ((findL l ⟨1, k.i⟩).getD zLs).lk 1 v.i).isSome with
    | true => [⟨v, ⟨1, k.i⟩, k.c, k.d⟩]
    | false => [])
  | false => []
def edK2 (l : List Ls) (v : Vt) (k : Lk) : List Eg := match eqB k.k 2 with
  | true => (match (findL l ⟨2, k.i⟩).isSome && ((findL l ⟨2, k.i⟩).getD zLs).rt.contains v.i with
    | true => [⟨v, ⟨2, k.i⟩, k.c, k.d⟩]
    | false => [])
  | false => []
def edK (l : List Ls) (v : Vt) (k : Lk) : List Eg := edK1 l v k ++ edK2 l v k
def edR (l : List Ls) (v : Vt) (pre : List Int) (r : Int) : List Eg := match pre.contains r with
  | true => []
  | false => (match (findL l ⟨1, r⟩).isSome && (backL ((findL l ⟨1, r⟩).getD zLs).lk 2 v.i).isSome with
    | true => [⟨v, ⟨1, r⟩, 0, ((backL ((findL l ⟨1, r⟩).getD zLs).lk 2 v.i).getD zLk).d⟩]
    | false => [])
def edRs (l : List Ls) (v : Vt) (rt : List Int) : Nat → List Eg
  | 0 => []
  | j + 1 => edRs l v rt j ++ (match rt[j]? with
    | some r => edR l v (rt.take j) r
    | none => [])
def fromL (l : List Ls) (v : Vt) : List Eg := ((findL l v).getD zLs).lk.flatMap (edK l v) ++ edRs l v ((findL l v).getD zLs).rt ((findL l v).getD zLs).rt.length
theorem flat_take {α β : Type} (f : α → List β) {l : List α} {j : Nat} {x : α} (h : l[j]? = some x) : (l.take (j + 1)).flatMap f = (l.take j).flatMap f ++ f x := by
  rw [take_snoc h, List.flatMap_append]; simp
theorem edK1_len (l : List Ls) (v : Vt) (k : Lk) : (edK1 l v k).length ≤ 1 := by
  unfold edK1; split
  · split <;> simp
  · simp
theorem edK2_len (l : List Ls) (v : Vt) (k : Lk) : (edK2 l v k).length ≤ 1 := by
  unfold edK2; split
  · split <;> simp
  · simp
theorem edR_len (l : List Ls) (v : Vt) (p : List Int) (k : Int) : (edR l v p k).length ≤ 1 := by
  unfold edR; split
  · simp
  · split <;> simp
theorem edRs_len (l : List Ls) (v : Vt) (rt : List Int) : ∀ j, (edRs l v rt j).length ≤ j
  | 0 => Nat.le_refl _
  | j + 1 => by
    unfold edRs
    rw [List.length_append]
    have := edRs_len l v rt j
    cases rt[j]? with
    | none => simp; omega
    | some r => have := edR_len l v (rt.take j) r; simp only; omega
theorem flatK_len (l : List Ls) (v : Vt) : ∀ (ks : List Lk), (ks.flatMap (edK l v)).length ≤ 2 * ks.length
  | [] => by simp
  | k :: ks => by
    have h1 := flatK_len l v ks
    have h2 := edK1_len l v k
    have h3 := edK2_len l v k
    have h4 : (edK l v k).length = (edK1 l v k).length + (edK2 l v k).length := List.length_append
    rw [List.flatMap_cons, List.length_append, List.length_cons]
    omega
theorem find_mem {l : List Ls} {v : Vt} {x : Ls} (h : findL l v = some x) : x ∈ l := by
  have : ∀ (l : List Ls) (m : Option Ls), l.foldl (fdS v) m = some x → m = some x ∨ x ∈ l := by
    intro l
    induction l with
    | nil => intro m h; exact .inl h
    | cons y l ih =>
      intro m h
      rw [List.foldl_cons] at h
      rcases ih _ h with h | h
      · unfold fdS at h
        split at h
        · cases h; exact .inr (List.mem_cons_self ..)
        · exact .inl h
      · exact .inr (List.mem_cons_of_mem _ h)
  rcases this l none h with h | h
  · cases h
  · exact h
/-- Short lists. -/
structure Few (l : List Ls) : Prop where
  len : l.length ≤ 1000
  lk : ∀ x ∈ l, x.lk.length ≤ 1000
  rt : ∀ x ∈ l, x.rt.length ≤ 1000
theorem Few.fl {l : List Ls} (h : Few l) (v : Vt) : ((findL l v).getD zLs).lk.length ≤ 1000 := by
  cases hx : findL l v with
  | none => exact Nat.zero_le _
  | some x => exact h.lk x (find_mem hx)
theorem Few.fr {l : List Ls} (h : Few l) (v : Vt) : ((findL l v).getD zLs).rt.length ≤ 1000 := by
  cases hx : findL l v with
  | none => exact Nat.zero_le _
  | some x => exact h.rt x (find_mem hx)
theorem from_len {l : List Ls} (h : Few l) (v : Vt) : (fromL l v).length ≤ 3000 := by
  unfold fromL
  rw [List.length_append]
  have h1 := flatK_len l v ((findL l v).getD zLs).lk
  have h2 := edRs_len l v ((findL l v).getD zLs).rt ((findL l v).getD zLs).rt.length
  have := h.fl v
  have := h.fr v
  omega
abbrev hLk (x : Lk) : Option (TypeId × List AV) := some (54, [I x.k, I x.i, I x.d, I x.c])
theorem eE_app (a b : List Eg) : some (⟨69, 6, a.map Eg.row ++ b.map Eg.row, false⟩ : SE) = eE (a ++ b) := by rw [eE, List.map_append]
end Go.Proofs.Ytmocggibcniggaa.Kt
namespace Go.Proofs.Ytmocggibcniggaa.Kt
open Go Kw Go.Proofs
attribute [local irreducible] Kw.GI Kw.GR Kw.FnR Kw.FnX
set_option maxHeartbeats 8000000
set_option maxRecDepth 100000
theorem from_ok (l : List Ls) (v : Vt) (hw : Few l) : FnX Try.prog 46 [fsL l, v.av] [] [] (RV1 (eE (fromL l v))) := by
  have hl : l.length < 1000000 := by have := hw.len; omega
  obtain ⟨x0, hx0⟩ : ∃ x0, x0 = (findL l v).getD zLs := ⟨_, rfl⟩
  have hk0 : x0.lk.length ≤ 1000 := hx0 ▸ hw.fl v
  have hr0 : x0.rt.length ≤ 1000 := hx0 ▸ hw.fr v
  refine fnX_intro (T := TT) (n := 154) Try.func46 rfl rfl rfl (fun w X Z Y B => ?_)
  (repeat (first | refine r_end ?_ | (refine r_op ?_; first | refine r_pure hT rfl rfl rfl rfl rfl rfl ?_ | refine r_box rfl rfl rfl rfl rfl rfl rfl rfl rfl ?_) | refine gi_seq ?_ | refine gi_plain_ne 2 rfl ?_))
  refine gi_adopt (e := 69) (sz := 6) 5 rfl ?_
  (repeat (first | (refine r_op ?_; first | refine r_pure hT rfl rfl rfl rfl rfl rfl ?_ | refine r_load hT rfl rfl rfl rfl rfl rfl rfl rfl rfl ?_) | refine gi_plain ?_))
  refine r_callX [] [] (FnR.x (find_ok l v hl)) rfl rfl rfl rfl rfl rfl Try.func45 rfl rfl rfl rfl rfl rfl rfl pFd ?_
  rintro r H1 S1 ⟨rfl, rfl, rfl⟩
  rw [← hx0]
  (repeat (first | refine r_end ?_ | (refine r_op ?_; first | refine r_pure hT rfl rfl rfl rfl rfl rfl ?_ | refine r_store hT rfl rfl rfl rfl rfl rfl rfl rfl rfl rfl ?_ | refine r_alloc hT rfl rfl rfl rfl rfl rfl rfl rfl rfl ?_) | refine gi_seq ?_ | refine gi_plain ?_ | refine gi_block ?_))
  refine gi_pick [0, 1] [0] rfl rfl rfl rfl rfl ?_
  apply gi_cut (σ := Unit) (fun _ => [(6, .box 1 0), (5, .sl 0), (3, .box 0 0), (0, fsL l)]) (fun _ => [hV v, hLs x0]) (fun _ => [eE (x0.lk.flatMap (edK l v))]) (fun _ => True) (fun _ => rfl)
  case first =>
    intro fin
    refine gi_loop (σ := Nat) (fun j => [(8, I j), (6, .box 1 0), (5, .sl 0), (3, .box 0 0), (0, fsL l)]) (fun _ => [hV v, hLs x0]) (fun j => [eE ((x0.lk.take j).flatMap (edK l v))]) (fun j => j ≤ x0.lk.length) (fun j => x0.lk.length - j) 0 (Nat.zero_le _) ⟨rfl, rfl, rfl, rfl, rfl, trivial⟩ ⟨rfl, rfl, trivial⟩ ⟨rfl, trivial⟩ (fun _ => rfl) (fun j hj next => ?_)
    have hj : j ≤ x0.lk.length := hj
    (repeat (first | refine r_end ?_ | (refine r_op ?_; first | refine r_pure hT rfl rfl rfl rfl rfl rfl ?_ | refine r_load hT rfl rfl rfl rfl rfl rfl rfl rfl rfl ?_) | refine gi_seq ?_ | refine gi_plain ?_))
    refine gi_lt (q := ((x0.lk.map Lk.row).length : Int)) rfl (fun h3 => ?_) (fun h3 => ?_)
    · rw [List.length_map] at h3
      have hjl : j < x0.lk.length := by omega
      obtain ⟨k, hk⟩ : ∃ k, x0.lk[j]? = some k := ⟨_, List.getElem?_eq_getElem hjl⟩
      have hft := flat_take (edK l v) hk
      obtain ⟨m, hm⟩ : ∃ m, m = (x0.lk.take j).flatMap (edK l v) := ⟨_, rfl⟩
      have hml : m.length ≤ 2 * j := by
        have := flatK_len l v (x0.lk.take j)
        rw [List.length_take] at this
        rw [hm]; omega
      rw [← hm] at hft
      rw [← hm]
      have h1l := edK1_len l v k
      (repeat (first | (refine r_op ?_; first | refine r_pure hT rfl rfl rfl rfl rfl rfl ?_ | refine r_load hT rfl rfl rfl rfl rfl rfl rfl rfl rfl ?_) | refine gi_seq ?_ | refine gi_plain ?_ | refine gi_skip ?_ | refine gi_block ?_))
      refine r_thaw 38 rfl ?_
      refine r_idx (row := k.row) hT rfl rfl rfl rfl rfl rfl rfl rfl rfl rfl rfl rfl (by omega) (by simp [hk]) ?_
      (repeat (first | refine r_end ?_ | (refine r_op ?_; first | refine r_load hT rfl rfl rfl rfl rfl rfl rfl rfl rfl ?_ | refine r_store hT rfl rfl rfl rfl rfl rfl rfl rfl rfl rfl ?_ | refine r_alloc hT rfl rfl rfl rfl rfl rfl rfl rfl rfl ?_) | refine gi_seq ?_))
      apply gi_cut (σ := Unit) (fun _ => [(9, .box 2 0), (8, I j), (6, .box 1 0), (5, .sl 0), (3, .box 0 0), (0, fsL l)]) (fun _ => [hV v, hLs x0, hLk k]) (fun _ => [eE (m ++ edK1 l v k)]) (fun _ => True) (fun _ => rfl)
      case first =>
        intro fn
        (repeat (first | refine r_end ?_ | (refine r_op ?_; first | refine r_pure hT rfl rfl rfl rfl rfl rfl ?_ | refine r_load hT rfl rfl rfl rfl rfl rfl rfl rfl rfl ?_) | refine gi_plain ?_))
        refine gi_cond rfl (fun c1 => ?_) (fun c1 => ?_)
        · (repeat (first | refine r_end ?_ | (refine r_op ?_; first | refine r_pure hT rfl rfl rfl rfl rfl rfl ?_ | refine r_load hT rfl rfl rfl rfl rfl rfl rfl rfl rfl ?_ | refine r_store hT rfl rfl rfl rfl rfl rfl rfl rfl rfl rfl ?_ | refine r_alloc hT rfl rfl rfl rfl rfl rfl rfl rfl rfl ?_) | refine gi_seq ?_ | refine gi_plain ?_))
          refine r_callX [] [] (FnR.x (find_ok l ⟨1, k.i⟩ hl)) rfl rfl rfl rfl rfl rfl Try.func45 rfl rfl rfl rfl rfl rfl rfl pFd ?_
          rintro r H1 S1 ⟨rfl, rfl, rfl⟩
          (repeat (first | refine r_end ?_ | (refine r_op ?_; first | refine r_pure hT rfl rfl rfl rfl rfl rfl ?_ | refine r_load hT rfl rfl rfl rfl rfl rfl rfl rfl rfl ?_ | refine r_store hT rfl rfl rfl rfl rfl rfl rfl rfl rfl rfl ?_ | refine r_alloc hT rfl rfl rfl rfl rfl rfl rfl rfl rfl ?_) | refine gi_seq ?_ | refine gi_plain ?_))
          refine r_call (back_ok ((findL l ⟨1, k.i⟩).getD zLs) 1 v.i (by have := hw.fl ⟨1, k.i⟩; omega)) rfl rfl rfl rfl rfl rfl rfl rfl Try.func76 rfl rfl rfl (pA rfl) ?_
          rintro r S1 ⟨rfl, rfl⟩
          (repeat (first | refine r_end ?_ | (refine r_op ?_; first | refine r_pure hT rfl rfl rfl rfl rfl rfl ?_ | refine r_store hT rfl rfl rfl rfl rfl rfl rfl rfl rfl rfl ?_ | refine r_alloc hT rfl rfl rfl rfl rfl rfl rfl rfl rfl ?_) | refine gi_seq ?_ | refine gi_plain ?_))
          have he1 : edK1 l v k = (match (findL l ⟨1, k.i⟩).isSome && (backL ((findL l ⟨1, k.i⟩).getD zLs).lk 1 v.i).isSome with
            | true => [⟨v, ⟨1, k.i⟩, k.c, k.d⟩]
            | false => []) := by unfold edK1; rw [c1]; try rfl
          refine r_case (d := 62) rfl (fun c2 => ?_) (fun c2 => ?_)
          · (repeat (first | refine r_end ?_ | (refine r_op ?_; refine r_pure hT rfl rfl rfl rfl rfl rfl ?_)))
            refine gi_cond rfl (fun c3 => ?_) (fun c3 => ?_)
            · rw [c2, c3] at he1
              (repeat (first | (refine r_op ?_; first | refine r_pure hT rfl rfl rfl rfl rfl rfl ?_ | refine r_load hT rfl rfl rfl rfl rfl rfl rfl rfl rfl ?_ | refine r_lit hT rfl rfl rfl rfl rfl rfl rfl rfl rfl rfl rfl rfl rfl ?_) | refine gi_plain ?_))
              refine r_append hT rfl rfl rfl rfl rfl rfl rfl rfl rfl rfl rfl rfl rfl rfl rfl rfl rfl ?_ ?_
              · simp only [List.length_cons, List.length_nil, List.length_map, maxLen]
                constructor
                · omega
                · show _ * 48 ≤ _
                  omega
              (repeat (first | refine r_end ?_ | (refine r_op ?_; refine r_pure hT rfl rfl rfl rfl rfl rfl ?_) | refine gi_seq ?_))
              refine gi_pick [0, 1, 2] [0] rfl rfl rfl rfl rfl ?_
              refine fn () _ _ _ trivial ⟨rfl, rfl, rfl, rfl, rfl, rfl, trivial⟩ ⟨rfl, rfl, rfl, trivial⟩ ⟨?_, trivial⟩
              rw [he1]
              exact (eE_app m [⟨v, ⟨1, k.i⟩, k.c, k.d⟩]).symm
            · rw [c2, c3] at he1
              (repeat (first | refine gi_seq ?_ | refine gi_skip ?_))
              refine gi_pick [0, 1, 2] [0] rfl rfl rfl rfl rfl ?_
              exact fn () _ _ _ trivial ⟨rfl, rfl, rfl, rfl, rfl, rfl, trivial⟩ ⟨rfl, rfl, rfl, trivial⟩ ⟨by rw [he1, Bool.true_and, List.append_nil], trivial⟩
          · rw [c2] at he1
            (repeat (first | refine r_end ?_ | (refine r_op ?_; first | refine r_pure hT rfl rfl rfl rfl rfl rfl ?_ | refine r_off rfl rfl rfl rfl rfl ?_) | refine gi_seq ?_ | refine gi_skip ?_ | (refine gi_cnd ?_; first | refine gi_true rfl ?_ | refine gi_false rfl ?_)))
            refine gi_pick [0, 1, 2] [0] rfl rfl rfl rfl rfl ?_
            exact fn () _ _ _ trivial ⟨rfl, rfl, rfl, rfl, rfl, rfl, trivial⟩ ⟨rfl, rfl, rfl, trivial⟩ ⟨by rw [he1, Bool.false_and, List.append_nil], trivial⟩
        · have he1 : edK1 l v k = [] := by unfold edK1; rw [c1]; try rfl
          (repeat (first | refine gi_seq ?_ | refine gi_skip ?_))
          refine gi_pick [0, 1, 2] [0] rfl rfl rfl rfl rfl ?_
          exact fn () _ _ _ trivial ⟨rfl, rfl, rfl, rfl, rfl, rfl, trivial⟩ ⟨rfl, rfl, rfl, trivial⟩ ⟨by rw [he1, List.append_nil], trivial⟩
      case after =>
        intro _ _
        have hm1 : (m ++ edK1 l v k).length ≤ 2 * j + 1 := by rw [List.length_append]; omega
        obtain ⟨m1, hmm⟩ : ∃ m1, m1 = m ++ edK1 l v k := ⟨_, rfl⟩
        rw [← hmm] at hm1 ⊢
        have nx : ∀ m', m' = m1 ++ edK2 l v k → ∀ F1 H1 S1, SubF [(8, I (wr .i64 ((j : Int) + 1))), (6, .box 1 0), (5, .sl 0), (3, .box 0 0), (0, fsL l)] F1 → SubH [hV v, hLs x0] H1 → SubS [eE m'] S1 → GI _ _ F1 H1 S1 := fun m' h F1 H1 S1 hF hH hS => by
          refine next (j + 1) F1 H1 S1 hjl (by omega) ?_ hH ?_
          · rw [wr_i64 (by omega) (by omega)] at hF
            simpa using hF
          · rw [hft]; unfold edK; rw [← List.append_assoc, ← hmm, ← h]; exact hS
        (repeat (first | refine r_end ?_ | (refine r_op ?_; first | refine r_pure hT rfl rfl rfl rfl rfl rfl ?_ | refine r_load hT rfl rfl rfl rfl rfl rfl rfl rfl rfl ?_) | refine gi_plain ?_))
        refine gi_cond rfl (fun c1 => ?_) (fun c1 => ?_)
        · (repeat (first | refine r_end ?_ | (refine r_op ?_; first | refine r_pure hT rfl rfl rfl rfl rfl rfl ?_ | refine r_load hT rfl rfl rfl rfl rfl rfl rfl rfl rfl ?_ | refine r_store hT rfl rfl rfl rfl rfl rfl rfl rfl rfl rfl ?_ | refine r_alloc hT rfl rfl rfl rfl rfl rfl rfl rfl rfl ?_) | refine gi_seq ?_ | refine gi_plain ?_))
          refine r_callX [] [] (FnR.x (find_ok l ⟨2, k.i⟩ hl)) rfl rfl rfl rfl rfl rfl Try.func45 rfl rfl rfl rfl rfl rfl rfl pFd ?_
          rintro r H1 S1 ⟨rfl, rfl, rfl⟩
          (repeat (first | refine r_end ?_ | (refine r_op ?_; first | refine r_pure hT rfl rfl rfl rfl rfl rfl ?_ | refine r_store hT rfl rfl rfl rfl rfl rfl rfl rfl rfl rfl ?_ | refine r_alloc hT rfl rfl rfl rfl rfl rfl rfl rfl rfl ?_) | refine gi_seq ?_ | refine gi_plain ?_))
          have he1 : edK2 l v k = (match (findL l ⟨2, k.i⟩).isSome && ((findL l ⟨2, k.i⟩).getD zLs).rt.contains v.i with
            | true => [⟨v, ⟨2, k.i⟩, k.c, k.d⟩]
            | false => []) := by unfold edK2; rw [c1]; try rfl
          refine r_case (d := 88) rfl (fun c2 => ?_) (fun c2 => ?_)
          · (repeat ((refine r_op ?_; first | refine r_pure hT rfl rfl rfl rfl rfl rfl ?_ | refine r_load hT rfl rfl rfl rfl rfl rfl rfl rfl rfl ?_)))
            refine r_thaw 90 rfl ?_
            refine r_call (Has_ok ((findL l ⟨2, k.i⟩).getD zLs).rt v.i (by have := hw.fr ⟨2, k.i⟩; omega)) rfl rfl rfl rfl rfl rfl rfl rfl Try.func57 rfl rfl rfl pB ?_
            rintro r S1 ⟨rfl, rfl⟩
            (repeat (first | refine r_end ?_ | (refine r_op ?_; refine r_pure hT rfl rfl rfl rfl rfl rfl ?_)))
            refine gi_cond rfl (fun c3 => ?_) (fun c3 => ?_)
            · rw [c2, c3] at he1
              (repeat (first | (refine r_op ?_; first | refine r_pure hT rfl rfl rfl rfl rfl rfl ?_ | refine r_load hT rfl rfl rfl rfl rfl rfl rfl rfl rfl ?_ | refine r_lit hT rfl rfl rfl rfl rfl rfl rfl rfl rfl rfl rfl rfl rfl ?_) | refine gi_plain ?_))
              refine r_append hT rfl rfl rfl rfl rfl rfl rfl rfl rfl rfl rfl rfl rfl rfl rfl rfl rfl ?_ ?_
              · simp only [List.length_cons, List.length_nil, List.length_map, maxLen]
                constructor
                · omega
                · show _ * 48 ≤ _
                  omega
              (repeat (first | refine r_end ?_ | (refine r_op ?_; refine r_pure hT rfl rfl rfl rfl rfl rfl ?_) | refine gi_plain ?_ | refine gi_inBlock ?_))
              refine gi_pick [0, 1] [0] rfl rfl rfl rfl rfl ?_
              refine nx (m1 ++ [⟨v, ⟨2, k.i⟩, k.c, k.d⟩]) (by rw [he1]; rfl) _ _ _ ⟨rfl, rfl, rfl, rfl, rfl, trivial⟩ ⟨rfl, rfl, trivial⟩ ⟨?_, trivial⟩
              exact (eE_app m1 [⟨v, ⟨2, k.i⟩, k.c, k.d⟩]).symm
            · rw [c2, c3] at he1
              (repeat (first | refine r_end ?_ | (refine r_op ?_; refine r_pure hT rfl rfl rfl rfl rfl rfl ?_) | refine gi_plain ?_ | refine gi_skip ?_ | refine gi_inBlock ?_))
              refine gi_pick [0, 1] [0] rfl rfl rfl rfl rfl ?_
              exact nx m1 (by rw [he1, Bool.true_and, List.append_nil]) _ _ _ ⟨rfl, rfl, rfl, rfl, rfl, trivial⟩ ⟨rfl, rfl, trivial⟩ ⟨rfl, trivial⟩
          · rw [c2] at he1
            (repeat (first | refine r_end ?_ | (refine r_op ?_; first | refine r_pure hT rfl rfl rfl rfl rfl rfl ?_ | refine r_off rfl rfl rfl rfl rfl ?_) | refine gi_plain ?_ | refine gi_skip ?_ | refine gi_inBlock ?_ | (refine gi_cnd ?_; first | refine gi_true rfl ?_ | refine gi_false rfl ?_)))
            refine gi_pick [0, 1] [0] rfl rfl rfl rfl rfl ?_
            exact nx m1 (by rw [he1, Bool.false_and, List.append_nil]) _ _ _ ⟨rfl, rfl, rfl, rfl, rfl, trivial⟩ ⟨rfl, rfl, trivial⟩ ⟨rfl, trivial⟩
        · have he1 : edK2 l v k = [] := by unfold edK2; rw [c1]; try rfl
          (repeat (first | refine r_end ?_ | (refine r_op ?_; refine r_pure hT rfl rfl rfl rfl rfl rfl ?_) | refine gi_plain ?_ | refine gi_skip ?_ | refine gi_inBlock ?_))
          refine gi_pick [0, 1] [0] rfl rfl rfl rfl rfl ?_
          exact nx m1 (by rw [he1, List.append_nil]) _ _ _ ⟨rfl, rfl, rfl, rfl, rfl, trivial⟩ ⟨rfl, rfl, trivial⟩ ⟨rfl, trivial⟩
    · rw [List.length_map] at h3
      have hjl : j = x0.lk.length := by omega
      subst hjl
      rw [List.take_length]
      (repeat (first | refine gi_seq ?_ | refine gi_exit rfl ?_))
      exact fin () _ _ _ trivial ⟨rfl, rfl, rfl, rfl, trivial⟩ ⟨rfl, rfl, trivial⟩ ⟨rfl, trivial⟩
  case after =>
    intro _ _
    have hfl : fromL l v = x0.lk.flatMap (edK l v) ++ edRs l v x0.rt x0.rt.length := by unfold fromL; rw [← hx0]
    obtain ⟨A, hA⟩ : ∃ A, A = x0.lk.flatMap (edK l v) := ⟨_, rfl⟩
    have hAl : A.length ≤ 2000 := by have := flatK_len l v x0.lk; rw [hA]; omega
    rw [← hA] at hfl ⊢
    (repeat (first | refine r_end ?_ | (refine r_op ?_; refine r_pure hT rfl rfl rfl rfl rfl rfl ?_) | refine gi_plain ?_ | refine gi_block ?_))
    refine gi_loop (σ := Nat) (fun j => [(18, I j), (6, .box 1 0), (5, .sl 0), (3, .box 0 0), (0, fsL l)]) (fun _ => [hV v, hLs x0]) (fun j => [eE (A ++ edRs l v x0.rt j)]) (fun j => j ≤ x0.rt.length) (fun j => x0.rt.length - j) 0 (Nat.zero_le _) ⟨rfl, rfl, rfl, rfl, rfl, trivial⟩ ⟨rfl, rfl, trivial⟩ ⟨by rw [show edRs l v x0.rt 0 = [] from rfl, List.append_nil], trivial⟩ (fun _ => rfl) (fun j hj next => ?_)
    have hj : j ≤ x0.rt.length := hj
    (repeat (first | refine r_end ?_ | (refine r_op ?_; first | refine r_pure hT rfl rfl rfl rfl rfl rfl ?_ | refine r_load hT rfl rfl rfl rfl rfl rfl rfl rfl rfl ?_) | refine gi_seq ?_ | refine gi_plain ?_))
    refine gi_lt (q := ((x0.rt.map nRow).length : Int)) rfl (fun h3 => ?_) (fun h3 => ?_)
    · rw [List.length_map] at h3
      have hjl : j < x0.rt.length := by omega
      obtain ⟨k, hk⟩ : ∃ k, x0.rt[j]? = some k := ⟨_, List.getElem?_eq_getElem hjl⟩
      have hft : edRs l v x0.rt (j + 1) = edRs l v x0.rt j ++ edR l v (x0.rt.take j) k := by rw [edRs, hk]
      have hml : (A ++ edRs l v x0.rt j).length ≤ 2000 + j := by
        have := edRs_len l v x0.rt j
        rw [List.length_append]; omega
      obtain ⟨m, hmA⟩ : ∃ m, m = A ++ edRs l v x0.rt j := ⟨_, rfl⟩
      rw [← hmA] at hml
      rw [← hmA]
      have nx : ∀ m', m' = m ++ edR l v (x0.rt.take j) k → ∀ F1 H1 S1, SubF [(18, I (wr .i64 ((j : Int) + 1))), (6, .box 1 0), (5, .sl 0), (3, .box 0 0), (0, fsL l)] F1 → SubH [hV v, hLs x0] H1 → SubS [eE m'] S1 → GI _ _ F1 H1 S1 := fun m' h F1 H1 S1 hF hH hS => by
        refine next (j + 1) F1 H1 S1 hjl (by omega) ?_ hH ?_
        · rw [wr_i64 (by omega) (by omega)] at hF
          simpa using hF
        · rw [hft, ← List.append_assoc, ← hmA, ← h]; exact hS
      (repeat (first | refine gi_seq ?_ | refine gi_skip ?_ | refine gi_block ?_))
      refine gi_drawM [] [(0, .p), (2, .p), (4, .p), (6, .p), (1, .t), (3, .p), (5, .t), (7, .p), (8, .t), (9, .o)] [0, 1, 0, 6, 0, 16, 0, 96, 128, 264] [0, 1, 0, 6, 0, 16, 0, 96, 128, 264] hm rfl (by kernel_rfl) (fun w1 K => ?_)
      (repeat ((refine r_op ?_; first | refine r_pure hT rfl rfl rfl rfl rfl rfl ?_ | refine r_load hT rfl rfl rfl rfl rfl rfl rfl rfl rfl ?_)))
      refine r_sliceF (L' := (x0.rt.take j).map nRow) hT rfl rfl rfl rfl rfl rfl rfl rfl rfl rfl rfl rfl rfl (by (try dsimp only) <;> (try simp only [wrL, List.length_map, List.length_append, List.length_take, List.length_drop, List.length_replicate, List.length_cons, List.length_nil]) <;> omega) (by show List.take _ (List.drop 0 (x0.rt.map nRow)) = _; rw [List.drop_zero, List.map_take]; congr 1) ?_
      refine r_thaw 115 rfl ?_
      (repeat ((refine r_op ?_; refine r_load hT rfl rfl rfl rfl rfl rfl rfl rfl rfl ?_)))
      refine r_thaw 117 rfl ?_
      refine r_idx (row := nRow k) hT rfl rfl rfl rfl rfl rfl rfl rfl rfl rfl rfl rfl (by omega) (by simp [hk]) ?_
      (repeat ((refine r_op ?_; refine r_load hT rfl rfl rfl rfl rfl rfl rfl rfl rfl ?_)))
      refine r_call (Has_ok (x0.rt.take j) k (by rw [List.length_take]; omega)) rfl rfl rfl rfl rfl rfl rfl rfl Try.func57 rfl rfl rfl pB ?_
      rintro r S1 ⟨rfl, rfl⟩
      (repeat (refine r_end ?_))
      refine gi_cond rfl (fun c0 => ?_) (fun c0 => ?_)
      · have he1 : edR l v (x0.rt.take j) k = [] := by unfold edR; rw [c0]; try rfl
        (repeat (first | refine r_end ?_ | (refine r_op ?_; refine r_pure hT rfl rfl rfl rfl rfl rfl ?_) | refine gi_plain ?_ | refine gi_exit rfl ?_))
        exact nx m (by rw [he1, List.append_nil]) _ _ _ ⟨rfl, rfl, rfl, rfl, rfl, trivial⟩ ⟨rfl, rfl, trivial⟩ ⟨rfl, trivial⟩
      have he1 : edR l v (x0.rt.take j) k = (match (findL l ⟨1, k⟩).isSome && (backL ((findL l ⟨1, k⟩).getD zLs).lk 2 v.i).isSome with
        | true => [⟨v, ⟨1, k⟩, 0, ((backL ((findL l ⟨1, k⟩).getD zLs).lk 2 v.i).getD zLk).d⟩]
        | false => []) := by unfold edR; rw [c0]; try rfl
      (repeat (first | (refine r_op ?_; first | refine r_pure hT rfl rfl rfl rfl rfl rfl ?_ | refine r_load hT rfl rfl rfl rfl rfl rfl rfl rfl rfl ?_) | refine gi_seq ?_ | refine gi_plain ?_ | refine gi_skip ?_))
      refine r_thaw 123 rfl ?_
      refine r_idx (row := nRow k) hT rfl rfl rfl rfl rfl rfl rfl rfl rfl rfl rfl rfl (by omega) (by simp [hk]) ?_
      (repeat (first | refine r_end ?_ | (refine r_op ?_; first | refine r_pure hT rfl rfl rfl rfl rfl rfl ?_ | refine r_load hT rfl rfl rfl rfl rfl rfl rfl rfl rfl ?_ | refine r_store hT rfl rfl rfl rfl rfl rfl rfl rfl rfl rfl ?_ | refine r_alloc hT rfl rfl rfl rfl rfl rfl rfl rfl rfl ?_) | refine gi_seq ?_ | refine gi_plain ?_))
      refine r_callX [] [] (FnR.x (find_ok l ⟨1, k⟩ hl)) rfl rfl rfl rfl rfl rfl Try.func45 rfl rfl rfl rfl rfl rfl rfl pFd ?_
      rintro r H1 S1 ⟨rfl, rfl, rfl⟩
      (repeat (first | refine r_end ?_ | (refine r_op ?_; first | refine r_pure hT rfl rfl rfl rfl rfl rfl ?_ | refine r_load hT rfl rfl rfl rfl rfl rfl rfl rfl rfl ?_ | refine r_store hT rfl rfl rfl rfl rfl rfl rfl rfl rfl rfl ?_ | refine r_alloc hT rfl rfl rfl rfl rfl rfl rfl rfl rfl ?_) | refine gi_seq ?_ | refine gi_plain ?_))
      refine r_call (back_ok ((findL l ⟨1, k⟩).getD zLs) 2 v.i (by have := hw.fl ⟨1, k⟩; omega)) rfl rfl rfl rfl rfl rfl rfl rfl Try.func76 rfl rfl rfl (pA rfl) ?_
      rintro r S1 ⟨rfl, rfl⟩
      (repeat (first | refine r_end ?_ | (refine r_op ?_; first | refine r_pure hT rfl rfl rfl rfl rfl rfl ?_ | refine r_store hT rfl rfl rfl rfl rfl rfl rfl rfl rfl rfl ?_ | refine r_alloc hT rfl rfl rfl rfl rfl rfl rfl rfl rfl ?_) | refine gi_seq ?_ | refine gi_plain ?_))
      refine r_case (d := 142) rfl (fun c2 => ?_) (fun c2 => ?_)
      · (repeat (first | refine r_end ?_ | (refine r_op ?_; refine r_pure hT rfl rfl rfl rfl rfl rfl ?_)))
        refine gi_cond rfl (fun c3 => ?_) (fun c3 => ?_)
        · rw [c2, c3] at he1
          (repeat (first | (refine r_op ?_; first | refine r_pure hT rfl rfl rfl rfl rfl rfl ?_ | refine r_load hT rfl rfl rfl rfl rfl rfl rfl rfl rfl ?_ | refine r_lit hT rfl rfl rfl rfl rfl rfl rfl rfl rfl rfl rfl rfl rfl ?_) | refine gi_plain ?_))
          refine r_append hT rfl rfl rfl rfl rfl rfl rfl rfl rfl rfl rfl rfl rfl rfl rfl rfl rfl ?_ ?_
          · simp only [List.length_cons, List.length_nil, List.length_map, maxLen]
            constructor
            · omega
            · show _ * 48 ≤ _
              omega
          (repeat (first | refine r_end ?_ | (refine r_op ?_; refine r_pure hT rfl rfl rfl rfl rfl rfl ?_) | refine gi_plain ?_ | refine gi_inBlock ?_))
          refine gi_pick [0, 1] [0] rfl rfl rfl rfl rfl ?_
          refine nx (m ++ [_]) (by rw [he1]; rfl) _ _ _ ⟨rfl, rfl, rfl, rfl, rfl, trivial⟩ ⟨rfl, rfl, trivial⟩ ⟨?_, trivial⟩
          exact (eE_app m [_]).symm
        · rw [c2, c3] at he1
          (repeat (first | refine r_end ?_ | (refine r_op ?_; refine r_pure hT rfl rfl rfl rfl rfl rfl ?_) | refine gi_plain ?_ | refine gi_skip ?_ | refine gi_inBlock ?_))
          refine gi_pick [0, 1] [0] rfl rfl rfl rfl rfl ?_
          exact nx m (by rw [he1, Bool.true_and, List.append_nil]) _ _ _ ⟨rfl, rfl, rfl, rfl, rfl, trivial⟩ ⟨rfl, rfl, trivial⟩ ⟨rfl, trivial⟩
      · rw [c2] at he1
        (repeat (first | refine r_end ?_ | (refine r_op ?_; first | refine r_pure hT rfl rfl rfl rfl rfl rfl ?_ | refine r_off rfl rfl rfl rfl rfl ?_) | refine gi_plain ?_ | refine gi_skip ?_ | refine gi_inBlock ?_ | (refine gi_cnd ?_; first | refine gi_true rfl ?_ | refine gi_false rfl ?_)))
        refine gi_pick [0, 1] [0] rfl rfl rfl rfl rfl ?_
        exact nx m (by rw [he1, Bool.false_and, List.append_nil]) _ _ _ ⟨rfl, rfl, rfl, rfl, rfl, trivial⟩ ⟨rfl, rfl, trivial⟩ ⟨rfl, trivial⟩
    · rw [List.length_map] at h3
      have hjl : j = x0.rt.length := by omega
      subst hjl
      rw [← hfl]
      (repeat (first | refine r_end ?_ | (refine r_op ?_; refine r_pure hT rfl rfl rfl rfl rfl rfl ?_) | refine gi_seq ?_ | refine gi_plain ?_ | refine gi_exit rfl ?_))
      refine gi_retX hT Try.func46 rfl [] [0] rfl rfl rfl rfl rfl rfl rfl rfl ?_
      exact ⟨rfl, rfl, rfl⟩
end Go.Proofs.Ytmocggibcniggaa.Kt
namespace Go.Proofs.Ytmocggibcniggaa.Kt
open Go Kw Go.Proofs
attribute [local irreducible] Kw.GI Kw.GR Kw.FnR Kw.FnX
set_option maxHeartbeats 8000000
set_option maxRecDepth 100000
/-- How far to the left. -/
def nM (b : Int) : Int := 32 - (if 0 ≤ b then (if b ≤ 32 then b else 32) else 0)
theorem nM_rng (b : Int) : 0 ≤ nM b ∧ nM b ≤ 32 := by
  unfold nM; split
  · split <;> omega
  · omega
@[irreducible] def maskF (b : Int) : Int := Go.bits .and .i64 (wr .i64 (4294967295 * 2 ^ (min (nM b).toNat 64))) 4294967295
@[irreducible] def netF (a b : Int) : Int := Go.bits .and .i64 (Go.bits .and .i64 a 4294967295) (maskF b)
theorem mm_nM (b : Int) : mm true 0 (mm false b 32) = 32 - nM b := by
  unfold mm nM
  simp only
  split <;> split <;> (try split) <;> omega
theorem wr_u64 (n : Int) : wr .u64 n = n % 18446744073709551616 := by
  rw [wr_eq]
  simp [IntKind.wrap, IntKind.bits, IntKind.signed]
theorem Mask_ok (b : Int) : FnR Try.prog 25 [I b] (RI (maskF b)) := by
  obtain ⟨g1, g2⟩ := nM_rng b
  refine fnR_intro (T := TT) (n := 12) Try.func25 rfl rfl rfl (fun w Z => ?_)
  (repeat (first | refine r_end ?_ | (refine r_op ?_; refine r_pure hT rfl rfl rfl rfl rfl rfl ?_) | refine gi_seq ?_ | refine gi_plain ?_))
  refine r_turn (d := 9) (y := .r (.v (.int .u64 (nM b)))) rfl ?_ ?_
  · rw [mm_nM]
    rw [show (32 : Int) - (32 - nM b) = nM b by omega, wr_i64 (by omega) (by omega), wr_u64, Int.emod_eq_of_lt (by omega) (by omega)]
  refine r_shl rfl rfl rfl rfl rfl rfl rfl rfl g1 rfl ?_
  (repeat (first | refine r_end ?_ | (refine r_op ?_; refine r_pure hT rfl rfl rfl rfl rfl rfl ?_)))
  refine gi_retW hT Try.func25 rfl rfl [] rfl rfl rfl rfl ?_
  refine ⟨?_, rfl⟩
  unfold maskF
  rfl
theorem Net_ok (a b : Int) : FnR Try.prog 27 [I a, I b] (RI (netF a b)) := by
  refine fnR_intro (T := TT) (n := 10) Try.func27 rfl rfl rfl (fun w Z => ?_)
  (repeat (first | refine r_end ?_ | (refine r_op ?_; refine r_pure hT rfl rfl rfl rfl rfl rfl ?_) | refine gi_seq ?_ | refine gi_plain ?_))
  refine r_call (Mask_ok b) rfl rfl rfl rfl rfl rfl rfl rfl Try.func25 rfl rfl rfl pI ?_
  rintro r S1 ⟨rfl, rfl⟩
  (repeat (first | refine r_end ?_ | (refine r_op ?_; refine r_pure hT rfl rfl rfl rfl rfl rfl ?_)))
  refine gi_retW hT Try.func27 rfl rfl [] rfl rfl rfl rfl ?_
  refine ⟨?_, rfl⟩
  unfold netF
  rfl
def bitsF (m : Int) : Int := match (List.range 33).find? (fun i => decide (maskF (i : Nat) = m)) with
  | some i => (i : Nat)
  | none => -1
theorem find_range {p : Nat → Bool} {n j : Nat} (h : ∀ t, t < j → p t = false) (hj : j < n) (hp : p j = true) : (List.range n).find? p = some j := by
  rw [List.find?_range_eq_some]
  exact ⟨hp, List.mem_range.2 hj, fun t ht => by rw [h t ht]; rfl⟩
theorem find_range_none {p : Nat → Bool} {n : Nat} (h : ∀ t, t < n → p t = false) : (List.range n).find? p = none := by
  rw [List.find?_eq_none]
  intro t ht
  rw [h t (List.mem_range.1 ht)]; decide
theorem Bits_ok (m : Int) : FnR Try.prog 47 [I m] (RI (bitsF m)) := by
  refine fnR_intro (T := TT) (n := 13) Try.func47 rfl rfl rfl (fun w Z => ?_)
  (repeat (first | refine r_end ?_ | (refine r_op ?_; refine r_pure hT rfl rfl rfl rfl rfl rfl ?_) | refine gi_seq ?_ | refine gi_plain ?_ | refine gi_block ?_))
  refine gi_loop (σ := Nat) (fun j => [(3, I j), (0, I m)]) (fun _ => []) (fun _ => []) (fun j => j ≤ 33 ∧ ∀ t, t < j → decide (maskF (t : Nat) = m) = false) (fun j => 33 - j) 0 ⟨Nat.zero_le _, fun t ht => absurd ht (Nat.not_lt_zero _)⟩ ⟨rfl, rfl, trivial⟩ trivial trivial (fun _ => rfl) (fun j hj next => ?_)
  obtain ⟨hj, hn⟩ := hj
  (repeat (first | refine r_end ?_ | (refine r_op ?_; refine r_pure hT rfl rfl rfl rfl rfl rfl ?_) | refine gi_seq ?_ | refine gi_plain ?_))
  refine gi_le rfl (fun h3 => ?_) (fun h3 => ?_)
  · (repeat (first | (refine r_op ?_; refine r_pure hT rfl rfl rfl rfl rfl rfl ?_) | refine gi_seq ?_ | refine gi_plain ?_ | refine gi_skip ?_ | refine gi_block ?_))
    refine r_call (Mask_ok j) rfl rfl rfl rfl rfl rfl rfl rfl Try.func25 rfl rfl rfl pI ?_
    rintro r S1 ⟨rfl, rfl⟩
    (repeat (first | refine r_end ?_ | (refine r_op ?_; refine r_pure hT rfl rfl rfl rfl rfl rfl ?_)))
    refine gi_eq rfl (fun h4 => ?_) (fun h4 => ?_)
    · (repeat (first | refine r_end ?_ | (refine r_op ?_; refine r_pure hT rfl rfl rfl rfl rfl rfl ?_) | refine gi_seq ?_ | refine gi_plain ?_))
      refine gi_retW hT Try.func47 rfl rfl [] rfl rfl rfl rfl ?_
      refine ⟨?_, rfl⟩
      unfold bitsF
      rw [find_range hn (by omega) (decide_eq_true h4)]
    · (repeat (first | refine r_end ?_ | (refine r_op ?_; refine r_pure hT rfl rfl rfl rfl rfl rfl ?_) | refine gi_plain ?_ | refine gi_skip ?_ | refine gi_inBlock ?_))
      refine next (j + 1) _ _ _ ⟨by omega, fun t ht => ?_⟩ (by omega) ⟨?_, rfl, trivial⟩ trivial trivial
      · rcases Nat.lt_succ_iff_lt_or_eq.1 ht with ht | rfl
        · exact hn t ht
        · exact decide_eq_false h4
      · show some (I (wr .i64 ((j : Int) + 1))) = _
        rw [wr_i64 (by omega) (by omega)]
        simp
  · (repeat (first | refine r_end ?_ | (refine r_op ?_; refine r_pure hT rfl rfl rfl rfl rfl rfl ?_) | refine gi_seq ?_ | refine gi_plain ?_ | refine gi_exit rfl ?_))
    refine gi_retW hT Try.func47 rfl rfl [] rfl rfl rfl rfl ?_
    refine ⟨?_, rfl⟩
    unfold bitsF
    rw [find_range_none (fun t ht => hn t (by omega))]
end Go.Proofs.Ytmocggibcniggaa.Kt
namespace Go.Proofs.Ytmocggibcniggaa.Kt
open Go Kw Go.Proofs
attribute [local irreducible] Kw.GI Kw.GR Kw.FnR Kw.FnX
set_option maxHeartbeats 16000000
set_option maxRecDepth 100000
structure Mp where
  vs : List Vt
  es : List Eg
  sb : List Sb
  sn : List Sn
  wl : List Int
def stF (i : Int) (k : Lk) : List Sb := match eqB k.k 3 && leB 0 (bitsF k.d) with
  | true => [⟨i, netF k.i (bitsF k.d), bitsF k.d, k.c⟩]
  | false => []
def snF (l : List Ls) (v : Vt) : List Sn := match eqB v.k 2 with
  | true => [⟨v, netF v.i ((findL l v).getD zLs).bits, ((findL l v).getD zLs).bits⟩]
  | false => []
def wl1 (l : List Ls) (v : Vt) : List Int := match notB (eqB (Go.bits .and .i64 ((findL l v).getD zLs).fl 8) 0) with
  | true => [v.i]
  | false => []
def wlF (l : List Ls) (v : Vt) : List Int := match eqB v.k 2 with
  | true => []
  | false => wl1 l v
def sbF (l : List Ls) (v : Vt) : List Sb := match eqB v.k 2 with
  | true => []
  | false => ((findL l v).getD zLs).lk.flatMap (stF v.i)
def mapL (l : List Ls) : Mp := ⟨vertsL l, (vertsL l).flatMap (fromL l), (vertsL l).flatMap (sbF l), (vertsL l).flatMap (snF l), (vertsL l).flatMap (wlF l)⟩
theorem flat_len {α β : Type} {f : α → List β} {c : Nat} (h : ∀ x, (f x).length ≤ c) : ∀ (l : List α), (l.flatMap f).length ≤ c * l.length
  | [] => by simp
  | x :: l => by
    have := flat_len h l
    have := h x
    rw [List.flatMap_cons, List.length_append, List.length_cons, Nat.mul_add]
    omega
theorem stF_len (i : Int) (k : Lk) : (stF i k).length ≤ 1 := by unfold stF; split <;> simp
theorem snF_len (l : List Ls) (k : Vt) : (snF l k).length ≤ 1 := by unfold snF; split <;> simp
theorem wl1_len (l : List Ls) (k : Vt) : (wl1 l k).length ≤ 1 := by unfold wl1; split <;> simp
theorem wlF_len (l : List Ls) (k : Vt) : (wlF l k).length ≤ 1 := by
  have := wl1_len l k
  unfold wlF; split
  · simp
  · exact this
theorem sbF_len {l : List Ls} (h : Few l) (k : Vt) : (sbF l k).length ≤ 1000 := by
  have h1 := flat_len (stF_len k.i) ((findL l k).getD zLs).lk
  have := h.fl k
  unfold sbF; split
  · simp
  · omega
theorem verts_len (l : List Ls) : (vertsL l).length ≤ 2 * l.length := by
  have := vfold_len l []
  simp only [List.length_nil] at this
  unfold vertsL
  omega
abbrev avM : AV := .agg [.sl 0, .sl 1, .sl 2, .sl 3, .sl 4]
abbrev SM (m : Mp) : Sp := [eV m.vs, eE m.es, eSb m.sb, eSn m.sn, eN m.wl]
abbrev hM (a b c d e : AV) : Option (TypeId × List AV) := some (31, [a, b, c, d, e])
abbrev nilA : AV := .r (.v (.slice none 0 0))
theorem eE_ap (a b : List Eg) : eE (a ++ b) = some (⟨69, 6, a.map Eg.row ++ b.map Eg.row, false⟩ : SE) := by rw [eE, List.map_append]
theorem eSn_ap (a b : List Sn) : eSn (a ++ b) = some (⟨78, 4, a.map Sn.row ++ b.map Sn.row, false⟩ : SE) := by rw [eSn, List.map_append]
theorem eSb_ap (a b : List Sb) : eSb (a ++ b) = some (⟨103, 4, a.map Sb.row ++ b.map Sb.row, false⟩ : SE) := by rw [eSb, List.map_append]
theorem eN_ap (a b : List Int) : eN (a ++ b) = some (⟨3, 1, a.map nRow ++ b.map nRow, false⟩ : SE) := by rw [eN, List.map_append]
theorem pl_E (l : List Eg) : ∀ row ∈ l.map Eg.row, ∀ x ∈ row, ∃ v, x = RV.v v := by
  intro row hr x hx
  obtain ⟨a, _, rfl⟩ := List.mem_map.1 hr
  simp only [Eg.row, List.mem_cons, List.not_mem_nil, or_false] at hx
  rcases hx with rfl | rfl | rfl | rfl | rfl | rfl <;> exact ⟨_, rfl⟩
theorem pEp {l : List Eg} : ∀ r S1, (r = .sl 0 ∧ S1 = [eE l]) → plainA r = true ∧ PlainS S1 := by
  rintro r S1 ⟨rfl, rfl⟩
  refine ⟨rfl, fun e he s hs => ?_⟩
  rw [List.mem_singleton.1 he] at hs
  cases hs
  exact ⟨rfl, pl_E l⟩
theorem from_R (l : List Ls) (v : Vt) (hw : Few l) : FnR Try.prog 46 [fsL l, v.av] (fun r S => r = .sl 0 ∧ S = [eE (fromL l v)]) := fnR_of ((from_ok l v hw).mono (fun r H S h => ⟨h.2.1, h.1, h.2.2⟩))
theorem Map_ok (l : List Ls) (hw : Few l) : FnX Try.prog 15 [fsL l] [] [] (fun r H S => r = avM ∧ H = [] ∧ S = SM (mapL l)) := by
  have hl0 := hw.len
  have hl : l.length < 1000000 := by omega
  have hvl := verts_len l
  refine fnX_intro (T := TT) (n := 115) Try.func15 rfl rfl rfl (fun w X Z Y B => ?_)
  (repeat (first | refine r_end ?_ | (refine r_op ?_; first | refine r_pure hT rfl rfl rfl rfl rfl rfl ?_ | refine r_alloc hT rfl rfl rfl rfl rfl rfl rfl rfl rfl ?_) | refine gi_seq ?_ | refine gi_plain ?_))
  refine r_callX [] [] (verts_ok l (by omega)) rfl rfl rfl rfl rfl rfl Try.func44 rfl rfl rfl rfl rfl rfl rfl pV1 ?_
  rintro r H1 S1 ⟨rfl, rfl, rfl⟩
  (repeat (first | refine r_end ?_ | (refine r_op ?_; first | refine r_pure hT rfl rfl rfl rfl rfl rfl ?_ | refine r_store hT rfl rfl rfl rfl rfl rfl rfl rfl rfl rfl ?_ | refine r_alloc hT rfl rfl rfl rfl rfl rfl rfl rfl rfl ?_) | refine gi_seq ?_ | refine gi_plain ?_ | refine gi_block ?_))
  obtain ⟨vs, hvs⟩ : ∃ vs, vs = vertsL l := ⟨_, rfl⟩
  rw [← hvs] at hvl
  rw [← hvs]
  refine gi_adoptH (e := 69) (sz := 6) 1 1 rfl rfl ?_
  refine gi_adoptH (e := 103) (sz := 4) 1 2 rfl rfl ?_
  refine gi_adoptH (e := 78) (sz := 4) 1 3 rfl rfl ?_
  refine gi_adoptH (e := 3) (sz := 1) 1 4 rfl rfl ?_
  refine gi_loop (σ := Nat) (fun j => [(4, I j), (3, .box 1 0), (2, .box 0 0), (0, fsL l)]) (fun _ => [hM nilA nilA nilA nilA nilA, hM (.sl 0) (.sl 1) (.sl 2) (.sl 3) (.sl 4)]) (fun j => [eV vs, eE ((vs.take j).flatMap (fromL l)), eSb ((vs.take j).flatMap (sbF l)), eSn ((vs.take j).flatMap (snF l)), eN ((vs.take j).flatMap (wlF l))]) (fun j => j ≤ vs.length) (fun j => vs.length - j) 0 (Nat.zero_le _) ⟨rfl, rfl, rfl, rfl, trivial⟩ ⟨rfl, rfl, trivial⟩ ⟨rfl, rfl, rfl, rfl, rfl, trivial⟩ (fun _ => rfl) (fun j hj next => ?_)
  have hj : j ≤ vs.length := hj
  (repeat (first | refine r_end ?_ | (refine r_op ?_; first | refine r_pure hT rfl rfl rfl rfl rfl rfl ?_ | refine r_load hT rfl rfl rfl rfl rfl rfl rfl rfl rfl ?_) | refine gi_seq ?_ | refine gi_plain ?_))
  refine gi_lt (q := ((vs.map Vt.row).length : Int)) rfl (fun h3 => ?_) (fun h3 => ?_)
  · rw [List.length_map] at h3
    have hjl : j < vs.length := by omega
    obtain ⟨v, hv⟩ : ∃ v, vs[j]? = some v := ⟨_, List.getElem?_eq_getElem hjl⟩
    have f1 := flat_take (fromL l) hv
    have f2 := flat_take (sbF l) hv
    have f3 := flat_take (snF l) hv
    have f4 := flat_take (wlF l) hv
    have b1 := flat_len (fun v => from_len hw v) (vs.take j)
    have b2 := flat_len (fun v => sbF_len hw v) (vs.take j)
    have b3 := flat_len (fun v => snF_len l v) (vs.take j)
    have b4 := flat_len (fun v => wlF_len l v) (vs.take j)
    have btk : (vs.take j).length ≤ 2000 := by rw [List.length_take]; omega
    obtain ⟨E, hE⟩ : ∃ E, E = (vs.take j).flatMap (fromL l) := ⟨_, rfl⟩
    obtain ⟨B, hB⟩ : ∃ B, B = (vs.take j).flatMap (sbF l) := ⟨_, rfl⟩
    obtain ⟨N, hN⟩ : ∃ N, N = (vs.take j).flatMap (snF l) := ⟨_, rfl⟩
    obtain ⟨W, hW⟩ : ∃ W, W = (vs.take j).flatMap (wlF l) := ⟨_, rfl⟩
    rw [← hE] at f1 b1; rw [← hB] at f2 b2; rw [← hN] at f3 b3; rw [← hW] at f4 b4
    rw [← hE, ← hB, ← hN, ← hW]
    obtain ⟨x, hx⟩ : ∃ x, x = (findL l v).getD zLs := ⟨_, rfl⟩
    have hxk : x.lk.length ≤ 1000 := hx ▸ hw.fl v
    have hfr := from_len hw v
    (repeat (first | (refine r_op ?_; first | refine r_pure hT rfl rfl rfl rfl rfl rfl ?_ | refine r_load hT rfl rfl rfl rfl rfl rfl rfl rfl rfl ?_) | refine gi_seq ?_ | refine gi_plain ?_ | refine gi_skip ?_ | refine gi_block ?_))
    refine r_idxS hT rfl rfl rfl rfl rfl rfl rfl rfl rfl rfl rfl rfl rfl (by (try dsimp only) <;> (try simp only [wrL, List.length_map, List.length_append, List.length_take, List.length_drop, List.length_replicate, List.length_cons, List.length_nil]) <;> omega) (by (try dsimp only) <;> (try simp only [wrL, List.length_map, List.length_append, List.length_take, List.length_drop, List.length_replicate, List.length_cons, List.length_nil]) <;> omega) ?_
    skip
    refine r_loadS (row := v.row) hT rfl rfl rfl rfl rfl rfl rfl rfl (by show (vs.map Vt.row)[((j : Int)).toNat]? = _; rw [Int.toNat_natCast, List.getElem?_map, hv]; rfl) rfl rfl rfl ?_
    (repeat (first | refine r_end ?_ | (refine r_op ?_; first | refine r_pure hT rfl rfl rfl rfl rfl rfl ?_ | refine r_load hT rfl rfl rfl rfl rfl rfl rfl rfl rfl ?_ | refine r_store hT rfl rfl rfl rfl rfl rfl rfl rfl rfl rfl ?_ | refine r_alloc hT rfl rfl rfl rfl rfl rfl rfl rfl rfl ?_) | refine gi_seq ?_ | refine gi_plain ?_))
    refine r_callX [] [] (FnR.x (find_ok l v hl)) rfl rfl rfl rfl rfl rfl Try.func45 rfl rfl rfl rfl rfl rfl rfl pFd ?_
    rintro r H1 S1 ⟨rfl, rfl, rfl⟩
    rw [← hx]
    (repeat (first | refine r_end ?_ | (refine r_op ?_; first | refine r_pure hT rfl rfl rfl rfl rfl rfl ?_ | refine r_store hT rfl rfl rfl rfl rfl rfl rfl rfl rfl rfl ?_ | refine r_alloc hT rfl rfl rfl rfl rfl rfl rfl rfl rfl ?_) | refine gi_seq ?_))
    refine gi_drawM [5, 7] [(0, .p), (2, .p), (1, .t), (3, .t), (4, .o), (5, .l), (6, .p), (7, .l)] [0, 1, 0, 0, 12, 18, 63, 127] [0, 1, 0, 0, 12, 18, 0, 96] hm rfl (by kernel_rfl) (fun w1 K => ?_)
    (repeat ((refine r_op ?_; first | refine r_pure hT rfl rfl rfl rfl rfl rfl ?_ | refine r_load hT rfl rfl rfl rfl rfl rfl rfl rfl rfl ?_)))
    refine r_call (from_R l v hw) rfl rfl rfl rfl rfl rfl rfl rfl Try.func46 rfl rfl rfl pEp ?_
    rintro r S1 ⟨rfl, rfl⟩
    skip
    refine r_append hT rfl rfl rfl rfl rfl rfl rfl rfl rfl rfl rfl rfl rfl rfl rfl rfl rfl ?_ ?_
    · simp only [List.length_cons, List.length_nil, List.length_map, maxLen]
      constructor
      · omega
      · show _ * 48 ≤ _
        omega
    (repeat (first | refine r_end ?_ | (refine r_op ?_; first | refine r_pure hT rfl rfl rfl rfl rfl rfl ?_ | refine r_store hT rfl rfl rfl rfl rfl rfl rfl rfl rfl rfl ?_) | refine gi_seq ?_))
    refine gi_pick [0, 1, 2, 3] [0, 1, 2, 3, 4] rfl rfl rfl rfl rfl ?_
    have nx : ∀ sb' sn' wl', sb' = B ++ sbF l v → sn' = N ++ snF l v → wl' = W ++ wlF l v → ∀ F1 H1 S1, SubF [(4, I (wr .i64 ((j : Int) + 1))), (3, .box 1 0), (2, .box 0 0), (0, fsL l)] F1 → SubH [hM nilA nilA nilA nilA nilA, hM (.sl 0) (.sl 1) (.sl 2) (.sl 3) (.sl 4)] H1 → SubS [eV vs, eE (E ++ fromL l v), eSb sb', eSn sn', eN wl'] S1 → GI _ _ F1 H1 S1 := fun sb' sn' wl' h1 h2 h3' F1 H1 S1 hF hH hS => by
      refine next (j + 1) F1 H1 S1 hjl (by omega) ?_ hH ?_
      · rw [wr_i64 (by omega) (by omega)] at hF
        simpa using hF
      · rw [f1, f2, f3, f4, ← h1, ← h2, ← h3']; exact hS
    have e1 := eE_ap E (fromL l v)
    (repeat (first | refine r_end ?_ | (refine r_op ?_; first | refine r_pure hT rfl rfl rfl rfl rfl rfl ?_ | refine r_load hT rfl rfl rfl rfl rfl rfl rfl rfl rfl ?_) | refine gi_plain ?_))
    refine gi_cond rfl (fun c1 => ?_) (fun c1 => ?_)
    · have g2 : sbF l v = [] := by unfold sbF; rw [c1]
      have g3 : snF l v = [⟨v, netF v.i x.bits, x.bits⟩] := by unfold snF; rw [c1, ← hx]
      have g4 : wlF l v = [] := by unfold wlF; rw [c1]
      (repeat (refine gi_seq ?_))
      refine gi_drawM [12, 14] [(0, .p), (3, .p), (5, .p), (8, .p), (1, .t), (2, .t), (4, .t), (6, .t), (9, .t), (7, .o), (10, .p), (11, .o), (12, .l), (13, .p), (14, .l)] [0, 1, 0, 0, 8, 0, 32, 80, 0, 256, 644, 1024, 2178, 8191, 16383] [0, 1, 0, 0, 8, 0, 32, 80, 0, 256, 644, 1024, 2050, 0, 12288] hm rfl (by kernel_rfl) (fun w1 K => ?_)
      (repeat ((refine r_op ?_; first | refine r_pure hT rfl rfl rfl rfl rfl rfl ?_ | refine r_load hT rfl rfl rfl rfl rfl rfl rfl rfl rfl ?_)))
      refine r_call (Net_ok v.i x.bits) rfl rfl rfl rfl rfl rfl rfl rfl Try.func27 rfl rfl rfl pI ?_
      rintro r S1 ⟨rfl, rfl⟩
      (repeat ((refine r_op ?_; first | refine r_pure hT rfl rfl rfl rfl rfl rfl ?_ | refine r_lit hT rfl rfl rfl rfl rfl rfl rfl rfl rfl rfl rfl rfl rfl ?_)))
      refine r_append hT rfl rfl rfl rfl rfl rfl rfl rfl rfl rfl rfl rfl rfl rfl rfl rfl rfl ?_ ?_
      · simp only [List.length_cons, List.length_nil, List.length_map, maxLen]
        constructor
        · omega
        · show _ * 32 ≤ _
          omega
      (repeat (first | refine r_end ?_ | (refine r_op ?_; first | refine r_pure hT rfl rfl rfl rfl rfl rfl ?_ | refine r_store hT rfl rfl rfl rfl rfl rfl rfl rfl rfl rfl ?_) | refine gi_plain ?_ | refine gi_exit rfl ?_))
      refine gi_pick [0, 1] [0, 1, 2, 3, 4] rfl rfl rfl rfl rfl ?_
      refine nx B (N ++ [⟨v, netF v.i x.bits, x.bits⟩]) W (by rw [g2, List.append_nil]) (by rw [g3]) (by rw [g4, List.append_nil]) _ _ _ ⟨rfl, rfl, rfl, rfl, trivial⟩ ⟨rfl, rfl, trivial⟩ ⟨rfl, e1, rfl, eSn_ap N [_], rfl, trivial⟩
    have g3 : snF l v = [] := by unfold snF; rw [c1]
    have g4 : wlF l v = wl1 l v := by unfold wlF; rw [c1]
    have g2 : sbF l v = x.lk.flatMap (stF v.i) := by unfold sbF; rw [c1, ← hx]
    have w1l := wl1_len l v
    apply gi_cut (σ := Unit) (fun _ => [(6, .box 3 0), (5, .box 2 0), (4, I j), (3, .box 1 0), (2, .box 0 0), (0, fsL l)]) (fun _ => [hM nilA nilA nilA nilA nilA, hM (.sl 0) (.sl 1) (.sl 2) (.sl 3) (.sl 4), hV v, hLs x]) (fun _ => [eV vs, eE (E ++ fromL l v), eSb B, eSn N, eN (W ++ wl1 l v)]) (fun _ => True) (fun _ => rfl)
    case first =>
      intro fin
      (repeat (first | refine r_end ?_ | (refine r_op ?_; first | refine r_pure hT rfl rfl rfl rfl rfl rfl ?_ | refine r_load hT rfl rfl rfl rfl rfl rfl rfl rfl rfl ?_) | refine gi_seq ?_ | refine gi_plain ?_ | refine gi_skip ?_))
      refine gi_cond rfl (fun c2 => ?_) (fun c2 => ?_)
      · have g5 : wl1 l v = [v.i] := by unfold wl1; rw [← hx, c2]
        (repeat (first | (refine r_op ?_; first | refine r_pure hT rfl rfl rfl rfl rfl rfl ?_ | refine r_load hT rfl rfl rfl rfl rfl rfl rfl rfl rfl ?_ | refine r_lit hT rfl rfl rfl rfl rfl rfl rfl rfl rfl rfl rfl rfl rfl ?_) | refine gi_plain ?_))
        refine r_append hT rfl rfl rfl rfl rfl rfl rfl rfl rfl rfl rfl rfl rfl rfl rfl rfl rfl ?_ ?_
        · simp only [List.length_cons, List.length_nil, List.length_map, maxLen]
          constructor
          · omega
          · show _ * 8 ≤ _
            omega
        (repeat (first | refine r_end ?_ | (refine r_op ?_; first | refine r_pure hT rfl rfl rfl rfl rfl rfl ?_ | refine r_store hT rfl rfl rfl rfl rfl rfl rfl rfl rfl rfl ?_) | refine gi_seq ?_))
        refine fin () _ _ _ trivial ⟨rfl, rfl, rfl, rfl, rfl, rfl, trivial⟩ ⟨rfl, rfl, rfl, rfl, trivial⟩ ⟨rfl, e1, rfl, rfl, ?_, trivial⟩
        rw [g5]
        exact eN_ap W [_]
      · have g5 : wl1 l v = [] := by unfold wl1; rw [← hx, c2]
        (repeat (first | refine gi_seq ?_ | refine gi_skip ?_))
        exact fin () _ _ _ trivial ⟨rfl, rfl, rfl, rfl, rfl, rfl, trivial⟩ ⟨rfl, rfl, rfl, rfl, trivial⟩ ⟨rfl, e1, rfl, rfl, by rw [g5, List.append_nil], trivial⟩
    case after =>
      intro _ _
      (repeat (first | refine r_end ?_ | (refine r_op ?_; refine r_pure hT rfl rfl rfl rfl rfl rfl ?_) | refine gi_plain ?_ | refine gi_block ?_))
      refine gi_loop (σ := Nat) (fun t => [(8, I t), (6, .box 3 0), (5, .box 2 0), (4, I j), (3, .box 1 0), (2, .box 0 0), (0, fsL l)]) (fun _ => [hM nilA nilA nilA nilA nilA, hM (.sl 0) (.sl 1) (.sl 2) (.sl 3) (.sl 4), hV v, hLs x]) (fun t => [eV vs, eE (E ++ fromL l v), eSb (B ++ (x.lk.take t).flatMap (stF v.i)), eSn N, eN (W ++ wl1 l v)]) (fun t => t ≤ x.lk.length) (fun t => x.lk.length - t) 0 (Nat.zero_le _) ⟨rfl, rfl, rfl, rfl, rfl, rfl, rfl, trivial⟩ ⟨rfl, rfl, rfl, rfl, trivial⟩ ⟨rfl, rfl, by rw [List.take_zero, List.flatMap_nil, List.append_nil], rfl, rfl, trivial⟩ (fun _ => rfl) (fun t ht next2 => ?_)
      have ht : t ≤ x.lk.length := ht
      (repeat (first | refine r_end ?_ | (refine r_op ?_; first | refine r_pure hT rfl rfl rfl rfl rfl rfl ?_ | refine r_load hT rfl rfl rfl rfl rfl rfl rfl rfl rfl ?_) | refine gi_seq ?_ | refine gi_plain ?_))
      refine gi_lt (q := ((x.lk.map Lk.row).length : Int)) rfl (fun h5 => ?_) (fun h5 => ?_)
      · rw [List.length_map] at h5
        have htl : t < x.lk.length := by omega
        obtain ⟨k, hk⟩ : ∃ k, x.lk[t]? = some k := ⟨_, List.getElem?_eq_getElem htl⟩
        have ft := flat_take (stF v.i) hk
        have bt := flat_len (stF_len v.i) (x.lk.take t)
        rw [List.length_take] at bt
        obtain ⟨D, hD⟩ : ∃ D, D = B ++ (x.lk.take t).flatMap (stF v.i) := ⟨_, rfl⟩
        have hDl : D.length ≤ 2001000 := by rw [hD, List.length_append]; omega
        rw [← hD]
        have nt : ∀ D', D' = D ++ stF v.i k → ∀ F1 H1 S1, SubF [(8, I (wr .i64 ((t : Int) + 1))), (6, .box 3 0), (5, .box 2 0), (4, I j), (3, .box 1 0), (2, .box 0 0), (0, fsL l)] F1 → SubH [hM nilA nilA nilA nilA nilA, hM (.sl 0) (.sl 1) (.sl 2) (.sl 3) (.sl 4), hV v, hLs x] H1 → SubS [eV vs, eE (E ++ fromL l v), eSb D', eSn N, eN (W ++ wl1 l v)] S1 → GI _ _ F1 H1 S1 := fun D' h F1 H1 S1 hF hH hS => by
          refine next2 (t + 1) F1 H1 S1 htl (by omega) ?_ hH ?_
          · rw [wr_i64 (by omega) (by omega)] at hF
            simpa using hF
          · rw [ft, ← List.append_assoc, ← hD, ← h]; exact hS
        (repeat (first | (refine r_op ?_; first | refine r_pure hT rfl rfl rfl rfl rfl rfl ?_ | refine r_load hT rfl rfl rfl rfl rfl rfl rfl rfl rfl ?_) | refine gi_seq ?_ | refine gi_plain ?_ | refine gi_skip ?_ | refine gi_block ?_))
        refine r_thaw 74 rfl ?_
        refine r_idx (row := k.row) hT rfl rfl rfl rfl rfl rfl rfl rfl rfl rfl rfl rfl (by omega) (by simp [hk]) ?_
        (repeat ((refine r_op ?_; first | refine r_pure hT rfl rfl rfl rfl rfl rfl ?_ | refine r_load hT rfl rfl rfl rfl rfl rfl rfl rfl rfl ?_)))
        refine r_call (Bits_ok k.d) rfl rfl rfl rfl rfl rfl rfl rfl Try.func47 rfl rfl rfl pI ?_
        rintro r S1 ⟨rfl, rfl⟩
        (repeat (first | refine r_end ?_ | (refine r_op ?_; first | refine r_pure hT rfl rfl rfl rfl rfl rfl ?_ | refine r_load hT rfl rfl rfl rfl rfl rfl rfl rfl rfl ?_) | refine gi_seq ?_ | refine gi_plain ?_))
        refine r_thaw 81 rfl ?_
        refine r_idx (row := k.row) hT rfl rfl rfl rfl rfl rfl rfl rfl rfl rfl rfl rfl (by omega) (by simp [hk]) ?_
        (repeat ((refine r_op ?_; first | refine r_pure hT rfl rfl rfl rfl rfl rfl ?_ | refine r_load hT rfl rfl rfl rfl rfl rfl rfl rfl rfl ?_)))
        refine r_case (d := 87) rfl (fun d1 => ?_) (fun d1 => ?_)
        · (repeat (first | refine r_end ?_ | (refine r_op ?_; refine r_pure hT rfl rfl rfl rfl rfl rfl ?_)))
          refine gi_cond rfl (fun d2 => ?_) (fun d2 => ?_)
          · have gs : stF v.i k = [⟨v.i, netF k.i (bitsF k.d), bitsF k.d, k.c⟩] := by unfold stF; rw [d1, d2]; rfl
            skip
            refine gi_drawM [21, 23] [(0, .p), (2, .p), (4, .p), (6, .p), (10, .p), (12, .p), (13, .p), (15, .p), (1, .t), (3, .t), (5, .t), (7, .p), (8, .p), (9, .t), (14, .t), (16, .p), (17, .p), (18, .t), (11, .o), (19, .p), (20, .o), (21, .l), (22, .p), (23, .l)] [0, 1, 0, 4, 0, 16, 0, 96, 128, 256, 0, 1536, 0, 0, 8192, 0, 49152, 65536, 131072, 268296, 524288, 1050626, 4194303, 8388607] [0, 1, 0, 4, 0, 16, 0, 96, 128, 256, 0, 1536, 0, 0, 8192, 0, 49152, 65536, 131072, 268296, 524288, 1048578, 0, 6291456] hm rfl (by kernel_rfl) (fun w1 K => ?_)
            (repeat ((refine r_op ?_; first | refine r_pure hT rfl rfl rfl rfl rfl rfl ?_ | refine r_load hT rfl rfl rfl rfl rfl rfl rfl rfl rfl ?_)))
            refine r_thaw 96 rfl ?_
            refine r_idx (row := k.row) hT rfl rfl rfl rfl rfl rfl rfl rfl rfl rfl rfl rfl (by omega) (by simp [hk]) ?_
            (repeat ((refine r_op ?_; first | refine r_pure hT rfl rfl rfl rfl rfl rfl ?_ | refine r_load hT rfl rfl rfl rfl rfl rfl rfl rfl rfl ?_)))
            refine r_thaw 105 rfl ?_
            refine r_idx (row := k.row) hT rfl rfl rfl rfl rfl rfl rfl rfl rfl rfl rfl rfl (by omega) (by simp [hk]) ?_
            (repeat ((refine r_op ?_; first | refine r_pure hT rfl rfl rfl rfl rfl rfl ?_ | refine r_load hT rfl rfl rfl rfl rfl rfl rfl rfl rfl ?_)))
            refine r_call (Net_ok k.i (bitsF k.d)) rfl rfl rfl rfl rfl rfl rfl rfl Try.func27 rfl rfl rfl pI ?_
            rintro r S1 ⟨rfl, rfl⟩
            (repeat ((refine r_op ?_; first | refine r_pure hT rfl rfl rfl rfl rfl rfl ?_ | refine r_lit hT rfl rfl rfl rfl rfl rfl rfl rfl rfl rfl rfl rfl rfl ?_)))
            refine r_append hT rfl rfl rfl rfl rfl rfl rfl rfl rfl rfl rfl rfl rfl rfl rfl rfl rfl ?_ ?_
            · simp only [List.length_cons, List.length_nil, List.length_map, maxLen]
              constructor
              · omega
              · show _ * 32 ≤ _
                omega
            (repeat (first | refine r_end ?_ | (refine r_op ?_; first | refine r_pure hT rfl rfl rfl rfl rfl rfl ?_ | refine r_store hT rfl rfl rfl rfl rfl rfl rfl rfl rfl rfl ?_) | refine gi_plain ?_ | refine gi_inBlock ?_))
            refine nt (D ++ [⟨v.i, netF k.i (bitsF k.d), bitsF k.d, k.c⟩]) (by rw [gs]) _ _ _ ⟨rfl, rfl, rfl, rfl, rfl, rfl, rfl, trivial⟩ ⟨rfl, rfl, rfl, rfl, trivial⟩ ⟨rfl, rfl, eSb_ap D [_], rfl, rfl, trivial⟩
          · have gs : stF v.i k = [] := by unfold stF; rw [d1, d2]; rfl
            (repeat (first | refine r_end ?_ | (refine r_op ?_; refine r_pure hT rfl rfl rfl rfl rfl rfl ?_) | refine gi_plain ?_ | refine gi_skip ?_ | refine gi_inBlock ?_))
            exact nt D (by rw [gs, List.append_nil]) _ _ _ ⟨rfl, rfl, rfl, rfl, rfl, rfl, rfl, trivial⟩ ⟨rfl, rfl, rfl, rfl, trivial⟩ ⟨rfl, rfl, rfl, rfl, rfl, trivial⟩
        · have gs : stF v.i k = [] := by unfold stF; rw [d1]; rfl
          (repeat (first | refine r_end ?_ | (refine r_op ?_; first | refine r_pure hT rfl rfl rfl rfl rfl rfl ?_ | refine r_off rfl rfl rfl rfl rfl ?_) | refine gi_plain ?_ | refine gi_skip ?_ | refine gi_inBlock ?_ | (refine gi_cnd ?_; first | refine gi_true rfl ?_ | refine gi_false rfl ?_)))
          exact nt D (by rw [gs, List.append_nil]) _ _ _ ⟨rfl, rfl, rfl, rfl, rfl, rfl, rfl, trivial⟩ ⟨rfl, rfl, rfl, rfl, trivial⟩ ⟨rfl, rfl, rfl, rfl, rfl, trivial⟩
      · rw [List.length_map] at h5
        have htl : t = x.lk.length := by omega
        subst htl
        rw [List.take_length, ← g2]
        (repeat (first | refine r_end ?_ | (refine r_op ?_; refine r_pure hT rfl rfl rfl rfl rfl rfl ?_) | refine gi_plain ?_ | refine gi_inBlock ?_ | refine gi_exit rfl ?_))
        refine gi_pick [0, 1] [0, 1, 2, 3, 4] rfl rfl rfl rfl rfl ?_
        exact nx _ N _ rfl (by rw [g3, List.append_nil]) (by rw [g4]) _ _ _ ⟨rfl, rfl, rfl, rfl, trivial⟩ ⟨rfl, rfl, trivial⟩ ⟨rfl, rfl, rfl, rfl, rfl, trivial⟩
  · rw [List.length_map] at h3
    have hjl : j = vs.length := by omega
    subst hjl
    rw [List.take_length, hvs]
    (repeat (first | refine r_end ?_ | (refine r_op ?_; first | refine r_load hT rfl rfl rfl rfl rfl rfl rfl rfl rfl ?_ | refine r_store hT rfl rfl rfl rfl rfl rfl rfl rfl rfl rfl ?_) | refine gi_seq ?_ | refine gi_plain ?_ | refine gi_exit rfl ?_))
    refine gi_retX hT Try.func15 rfl [] [0, 1, 2, 3, 4] rfl rfl rfl rfl rfl rfl rfl rfl ?_
    exact ⟨rfl, rfl, rfl⟩
end Go.Proofs.Ytmocggibcniggaa.Kt
