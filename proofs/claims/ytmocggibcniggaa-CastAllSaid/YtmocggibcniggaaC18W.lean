/- Part of the proofs of this seat's statements: what the functions compute. No condition. -/
import Derived.Test.YtmocggibcniggaaC10P
import Derived.Test.YtmocggibcniggaaK3
import Derived.Test.YtmocggibcniggaaProg
set_option linter.unusedSimpArgs false
set_option linter.unusedVariables false
namespace Go.Proofs.Ytmocggibcniggaa.Kt
open Go Kw Go.Proofs
attribute [local irreducible] Kw.GI Kw.GR Kw.FnR Kw.FnX
set_option maxRecDepth 100000
set_option maxHeartbeats 4000000
theorem y3 : tyOf Try.prog 3 = some ⟨false, 1, 8, [.int .i64 0], [], none, some .i64, false, false, false⟩ := by kernel_rfl
theorem y4 : tyOf Try.prog 4 = some ⟨false, 1, 1, [.bool false], [], none, none, true, false, false⟩ := by kernel_rfl
theorem y5 : tyOf Try.prog 5 = some ⟨false, 1, 1, [.int .u8 0], [], none, some .u8, false, false, false⟩ := by kernel_rfl
theorem y22 : tyOf Try.prog 22 = some ⟨false, 1, 24, [.slice none 0 0], [], some 51, none, false, false, false⟩ := by kernel_rfl
theorem y25 : tyOf Try.prog 25 = some ⟨false, 1, 24, [.slice none 0 0], [], some 34, none, false, false, false⟩ := by kernel_rfl
theorem y26 : tyOf Try.prog 26 = some ⟨false, 1, 24, [.slice none 0 0], [], some 69, none, false, false, false⟩ := by kernel_rfl
theorem y27 : tyOf Try.prog 27 = some ⟨false, 1, 24, [.slice none 0 0], [], some 103, none, false, false, false⟩ := by kernel_rfl
theorem y28 : tyOf Try.prog 28 = some ⟨false, 1, 24, [.slice none 0 0], [], some 78, none, false, false, false⟩ := by kernel_rfl
theorem y29 : tyOf Try.prog 29 = some ⟨false, 1, 24, [.slice none 0 0], [], some 3, none, false, false, false⟩ := by kernel_rfl
theorem y30 : tyOf Try.prog 30 = some ⟨true, 5, 120, [.slice none 0 0, .slice none 0 0, .slice none 0 0, .slice none 0 0, .slice none 0 0], [(0,1,false), (1,1,false), (2,1,false), (3,1,false), (4,1,false)], none, none, false, false, false⟩ := by kernel_rfl
theorem y31 : tyOf Try.prog 31 = some ⟨true, 5, 120, [.slice none 0 0, .slice none 0 0, .slice none 0 0, .slice none 0 0, .slice none 0 0], [(0,1,false), (1,1,false), (2,1,false), (3,1,false), (4,1,false)], none, none, false, false, false⟩ := by kernel_rfl
theorem y33 : tyOf Try.prog 33 = some ⟨true, 2, 16, [.int .i64 0, .int .i64 0], [(0,1,false), (1,1,false)], none, none, false, false, true⟩ := by kernel_rfl
theorem y34 : tyOf Try.prog 34 = some ⟨true, 2, 16, [.int .i64 0, .int .i64 0], [(0,1,false), (1,1,false)], none, none, false, false, true⟩ := by kernel_rfl
theorem y37 : tyOf Try.prog 37 = some ⟨false, 1, 24, [.slice none 0 0], [], some 58, none, false, false, false⟩ := by kernel_rfl
theorem y44 : tyOf Try.prog 44 = some ⟨false, 1, 4, [.int .u32 0], [], none, some .u32, false, false, false⟩ := by kernel_rfl
theorem y45 : tyOf Try.prog 45 = some ⟨false, 1, 24, [.slice none 0 0], [], some 44, none, false, false, false⟩ := by kernel_rfl
theorem y46 : tyOf Try.prog 46 = some ⟨false, 1, 24, [.slice none 0 0], [], some 5, none, false, false, false⟩ := by kernel_rfl
theorem y47 : tyOf Try.prog 47 = some ⟨true, 7, 56, [.int .i64 0, .int .i64 0, .int .i64 0, .int .i64 0, .int .i64 0, .int .i64 0, .int .i64 0], [(0,1,false), (1,1,false), (2,1,false), (3,1,false), (4,1,false), (5,1,false), (6,1,false)], none, none, false, false, true⟩ := by kernel_rfl
theorem y48 : tyOf Try.prog 48 = some ⟨true, 7, 56, [.int .i64 0, .int .i64 0, .int .i64 0, .int .i64 0, .int .i64 0, .int .i64 0, .int .i64 0], [(0,1,false), (1,1,false), (2,1,false), (3,1,false), (4,1,false), (5,1,false), (6,1,false)], none, none, false, false, true⟩ := by kernel_rfl
theorem y49 : tyOf Try.prog 49 = some ⟨false, 1, 24, [.slice none 0 0], [], some 54, none, false, false, false⟩ := by kernel_rfl
theorem y50 : tyOf Try.prog 50 = some ⟨true, 12, 144, [.int .i64 0, .int .i64 0, .int .i64 0, .int .i64 0, .int .i64 0, .int .i64 0, .int .i64 0, .int .i64 0, .slice none 0 0, .int .i64 0, .slice none 0 0, .slice none 0 0], [(0,7,true), (7,1,false), (8,1,false), (9,1,false), (10,1,false), (11,1,false)], none, none, false, false, false⟩ := by kernel_rfl
theorem y51 : tyOf Try.prog 51 = some ⟨true, 12, 144, [.int .i64 0, .int .i64 0, .int .i64 0, .int .i64 0, .int .i64 0, .int .i64 0, .int .i64 0, .int .i64 0, .slice none 0 0, .int .i64 0, .slice none 0 0, .slice none 0 0], [(0,7,true), (7,1,false), (8,1,false), (9,1,false), (10,1,false), (11,1,false)], none, none, false, false, false⟩ := by kernel_rfl
theorem y53 : tyOf Try.prog 53 = some ⟨true, 4, 32, [.int .i64 0, .int .i64 0, .int .i64 0, .int .i64 0], [(0,1,false), (1,1,false), (2,1,false), (3,1,false)], none, none, false, false, true⟩ := by kernel_rfl
theorem y54 : tyOf Try.prog 54 = some ⟨true, 4, 32, [.int .i64 0, .int .i64 0, .int .i64 0, .int .i64 0], [(0,1,false), (1,1,false), (2,1,false), (3,1,false)], none, none, false, false, true⟩ := by kernel_rfl
theorem y57 : tyOf Try.prog 57 = some ⟨true, 5, 40, [.int .i64 0, .int .i64 0, .int .i64 0, .int .i64 0, .int .i64 0], [(0,2,true), (2,1,false), (3,1,false), (4,1,false)], none, none, false, false, true⟩ := by kernel_rfl
theorem y58 : tyOf Try.prog 58 = some ⟨true, 5, 40, [.int .i64 0, .int .i64 0, .int .i64 0, .int .i64 0, .int .i64 0], [(0,2,true), (2,1,false), (3,1,false), (4,1,false)], none, none, false, false, true⟩ := by kernel_rfl
theorem y60 : tyOf Try.prog 60 = some ⟨false, 1, 24, [.slice none 0 0], [], some 4, none, false, false, false⟩ := by kernel_rfl
theorem y63 : tyOf Try.prog 63 = some ⟨false, 1, 24, [.slice none 0 0], [], some 67, none, false, false, false⟩ := by kernel_rfl
theorem y66 : tyOf Try.prog 66 = some ⟨true, 5, 40, [.int .i64 0, .int .i64 0, .int .i64 0, .int .i64 0, .int .i64 0], [(0,1,false), (1,1,false), (2,1,false), (3,1,false), (4,1,false)], none, none, false, false, true⟩ := by kernel_rfl
theorem y67 : tyOf Try.prog 67 = some ⟨true, 5, 40, [.int .i64 0, .int .i64 0, .int .i64 0, .int .i64 0, .int .i64 0], [(0,1,false), (1,1,false), (2,1,false), (3,1,false), (4,1,false)], none, none, false, false, true⟩ := by kernel_rfl
theorem y68 : tyOf Try.prog 68 = some ⟨true, 6, 48, [.int .i64 0, .int .i64 0, .int .i64 0, .int .i64 0, .int .i64 0, .int .i64 0], [(0,2,true), (2,2,true), (4,1,false), (5,1,false)], none, none, false, false, true⟩ := by kernel_rfl
theorem y69 : tyOf Try.prog 69 = some ⟨true, 6, 48, [.int .i64 0, .int .i64 0, .int .i64 0, .int .i64 0, .int .i64 0, .int .i64 0], [(0,2,true), (2,2,true), (4,1,false), (5,1,false)], none, none, false, false, true⟩ := by kernel_rfl
theorem y76 : tyOf Try.prog 76 = some ⟨false, 1, 8, [.int .u64 0], [], none, some .u64, false, false, false⟩ := by kernel_rfl
theorem y77 : tyOf Try.prog 77 = some ⟨true, 4, 32, [.int .i64 0, .int .i64 0, .int .i64 0, .int .i64 0], [(0,2,true), (2,1,false), (3,1,false)], none, none, false, false, true⟩ := by kernel_rfl
theorem y78 : tyOf Try.prog 78 = some ⟨true, 4, 32, [.int .i64 0, .int .i64 0, .int .i64 0, .int .i64 0], [(0,2,true), (2,1,false), (3,1,false)], none, none, false, false, true⟩ := by kernel_rfl
theorem y79 : tyOf Try.prog 79 = some ⟨false, 1, 24, [.slice none 0 0], [], some 90, none, false, false, false⟩ := by kernel_rfl
theorem y80 : tyOf Try.prog 80 = some ⟨true, 5, 56, [.int .i64 0, .int .i64 0, .int .i64 0, .int .i64 0, .slice none 0 0], [(0,1,false), (1,1,false), (2,1,false), (3,1,false), (4,1,false)], none, none, false, false, false⟩ := by kernel_rfl
theorem y81 : tyOf Try.prog 81 = some ⟨true, 5, 56, [.int .i64 0, .int .i64 0, .int .i64 0, .int .i64 0, .slice none 0 0], [(0,1,false), (1,1,false), (2,1,false), (3,1,false), (4,1,false)], none, none, false, false, false⟩ := by kernel_rfl
theorem y82 : tyOf Try.prog 82 = some ⟨false, 1, 8, [.int .i64 0], [], none, some .i64, false, false, false⟩ := by kernel_rfl
theorem y85 : tyOf Try.prog 85 = some ⟨false, 1, 24, [.slice none 0 0], [], some 126, none, false, false, false⟩ := by kernel_rfl
theorem y89 : tyOf Try.prog 89 = some ⟨true, 2, 16, [.int .i64 0, .int .i64 0], [(0,1,false), (1,1,false)], none, none, false, false, true⟩ := by kernel_rfl
theorem y90 : tyOf Try.prog 90 = some ⟨true, 2, 16, [.int .i64 0, .int .i64 0], [(0,1,false), (1,1,false)], none, none, false, false, true⟩ := by kernel_rfl
theorem y95 : tyOf Try.prog 95 = some ⟨true, 3, 24, [.int .i64 0, .int .i64 0, .int .i64 0], [(0,1,false), (1,1,false), (2,1,false)], none, none, false, false, true⟩ := by kernel_rfl
theorem y96 : tyOf Try.prog 96 = some ⟨true, 3, 24, [.int .i64 0, .int .i64 0, .int .i64 0], [(0,1,false), (1,1,false), (2,1,false)], none, none, false, false, true⟩ := by kernel_rfl
theorem y102 : tyOf Try.prog 102 = some ⟨true, 4, 32, [.int .i64 0, .int .i64 0, .int .i64 0, .int .i64 0], [(0,1,false), (1,1,false), (2,1,false), (3,1,false)], none, none, false, false, true⟩ := by kernel_rfl
theorem y103 : tyOf Try.prog 103 = some ⟨true, 4, 32, [.int .i64 0, .int .i64 0, .int .i64 0, .int .i64 0], [(0,1,false), (1,1,false), (2,1,false), (3,1,false)], none, none, false, false, true⟩ := by kernel_rfl
theorem y122 : tyOf Try.prog 122 = some ⟨true, 9, 72, [.int .i64 0, .int .i64 0, .int .i64 0, .int .i64 0, .int .i64 0, .int .i64 0, .int .i64 0, .int .i64 0, .int .i64 0], [(0,1,false), (1,1,false), (2,1,false), (3,1,false), (4,1,false), (5,1,false), (6,1,false), (7,1,false), (8,1,false)], none, none, false, false, true⟩ := by kernel_rfl
theorem y123 : tyOf Try.prog 123 = some ⟨true, 9, 72, [.int .i64 0, .int .i64 0, .int .i64 0, .int .i64 0, .int .i64 0, .int .i64 0, .int .i64 0, .int .i64 0, .int .i64 0], [(0,1,false), (1,1,false), (2,1,false), (3,1,false), (4,1,false), (5,1,false), (6,1,false), (7,1,false), (8,1,false)], none, none, false, false, true⟩ := by kernel_rfl
theorem y124 : tyOf Try.prog 124 = some ⟨false, 1, 24, [.slice none 0 0], [], some 131, none, false, false, false⟩ := by kernel_rfl
theorem y125 : tyOf Try.prog 125 = some ⟨true, 11, 120, [.int .i64 0, .int .i64 0, .int .i64 0, .int .i64 0, .int .i64 0, .int .i64 0, .int .i64 0, .int .i64 0, .int .i64 0, .slice none 0 0, .slice none 0 0], [(0,9,true), (9,1,false), (10,1,false)], none, none, false, false, false⟩ := by kernel_rfl
theorem y126 : tyOf Try.prog 126 = some ⟨true, 11, 120, [.int .i64 0, .int .i64 0, .int .i64 0, .int .i64 0, .int .i64 0, .int .i64 0, .int .i64 0, .int .i64 0, .int .i64 0, .slice none 0 0, .slice none 0 0], [(0,9,true), (9,1,false), (10,1,false)], none, none, false, false, false⟩ := by kernel_rfl
theorem y130 : tyOf Try.prog 130 = some ⟨true, 7, 56, [.int .i64 0, .int .i64 0, .int .i64 0, .int .i64 0, .int .i64 0, .bool false, .int .i64 0], [(0,1,false), (1,1,false), (2,1,false), (3,1,false), (4,1,false), (5,1,false), (6,1,false)], none, none, false, false, true⟩ := by kernel_rfl
theorem y131 : tyOf Try.prog 131 = some ⟨true, 7, 56, [.int .i64 0, .int .i64 0, .int .i64 0, .int .i64 0, .int .i64 0, .bool false, .int .i64 0], [(0,1,false), (1,1,false), (2,1,false), (3,1,false), (4,1,false), (5,1,false), (6,1,false)], none, none, false, false, true⟩ := by kernel_rfl
def TT : Tab := [(3, ⟨false, 1, 8, [.int .i64 0], [], none, some .i64, false, false, false⟩), (4, ⟨false, 1, 1, [.bool false], [], none, none, true, false, false⟩), (5, ⟨false, 1, 1, [.int .u8 0], [], none, some .u8, false, false, false⟩), (22, ⟨false, 1, 24, [.slice none 0 0], [], some 51, none, false, false, false⟩), (25, ⟨false, 1, 24, [.slice none 0 0], [], some 34, none, false, false, false⟩), (26, ⟨false, 1, 24, [.slice none 0 0], [], some 69, none, false, false, false⟩), (27, ⟨false, 1, 24, [.slice none 0 0], [], some 103, none, false, false, false⟩), (28, ⟨false, 1, 24, [.slice none 0 0], [], some 78, none, false, false, false⟩), (29, ⟨false, 1, 24, [.slice none 0 0], [], some 3, none, false, false, false⟩), (30, ⟨true, 5, 120, [.slice none 0 0, .slice none 0 0, .slice none 0 0, .slice none 0 0, .slice none 0 0], [(0,1,false), (1,1,false), (2,1,false), (3,1,false), (4,1,false)], none, none, false, false, false⟩), (31, ⟨true, 5, 120, [.slice none 0 0, .slice none 0 0, .slice none 0 0, .slice none 0 0, .slice none 0 0], [(0,1,false), (1,1,false), (2,1,false), (3,1,false), (4,1,false)], none, none, false, false, false⟩), (33, ⟨true, 2, 16, [.int .i64 0, .int .i64 0], [(0,1,false), (1,1,false)], none, none, false, false, true⟩), (34, ⟨true, 2, 16, [.int .i64 0, .int .i64 0], [(0,1,false), (1,1,false)], none, none, false, false, true⟩), (37, ⟨false, 1, 24, [.slice none 0 0], [], some 58, none, false, false, false⟩), (44, ⟨false, 1, 4, [.int .u32 0], [], none, some .u32, false, false, false⟩), (45, ⟨false, 1, 24, [.slice none 0 0], [], some 44, none, false, false, false⟩), (46, ⟨false, 1, 24, [.slice none 0 0], [], some 5, none, false, false, false⟩), (47, ⟨true, 7, 56, [.int .i64 0, .int .i64 0, .int .i64 0, .int .i64 0, .int .i64 0, .int .i64 0, .int .i64 0], [(0,1,false), (1,1,false), (2,1,false), (3,1,false), (4,1,false), (5,1,false), (6,1,false)], none, none, false, false, true⟩), (48, ⟨true, 7, 56, [.int .i64 0, .int .i64 0, .int .i64 0, .int .i64 0, .int .i64 0, .int .i64 0, .int .i64 0], [(0,1,false), (1,1,false), (2,1,false), (3,1,false), (4,1,false), (5,1,false), (6,1,false)], none, none, false, false, true⟩), (49, ⟨false, 1, 24, [.slice none 0 0], [], some 54, none, false, false, false⟩), (50, ⟨true, 12, 144, [.int .i64 0, .int .i64 0, .int .i64 0, .int .i64 0, .int .i64 0, .int .i64 0, .int .i64 0, .int .i64 0, .slice none 0 0, .int .i64 0, .slice none 0 0, .slice none 0 0], [(0,7,true), (7,1,false), (8,1,false), (9,1,false), (10,1,false), (11,1,false)], none, none, false, false, false⟩), (51, ⟨true, 12, 144, [.int .i64 0, .int .i64 0, .int .i64 0, .int .i64 0, .int .i64 0, .int .i64 0, .int .i64 0, .int .i64 0, .slice none 0 0, .int .i64 0, .slice none 0 0, .slice none 0 0], [(0,7,true), (7,1,false), (8,1,false), (9,1,false), (10,1,false), (11,1,false)], none, none, false, false, false⟩), (53, ⟨true, 4, 32, [.int .i64 0, .int .i64 0, .int .i64 0, .int .i64 0], [(0,1,false), (1,1,false), (2,1,false), (3,1,false)], none, none, false, false, true⟩), (54, ⟨true, 4, 32, [.int .i64 0, .int .i64 0, .int .i64 0, .int .i64 0], [(0,1,false), (1,1,false), (2,1,false), (3,1,false)], none, none, false, false, true⟩), (57, ⟨true, 5, 40, [.int .i64 0, .int .i64 0, .int .i64 0, .int .i64 0, .int .i64 0], [(0,2,true), (2,1,false), (3,1,false), (4,1,false)], none, none, false, false, true⟩), (58, ⟨true, 5, 40, [.int .i64 0, .int .i64 0, .int .i64 0, .int .i64 0, .int .i64 0], [(0,2,true), (2,1,false), (3,1,false), (4,1,false)], none, none, false, false, true⟩), (60, ⟨false, 1, 24, [.slice none 0 0], [], some 4, none, false, false, false⟩), (63, ⟨false, 1, 24, [.slice none 0 0], [], some 67, none, false, false, false⟩), (66, ⟨true, 5, 40, [.int .i64 0, .int .i64 0, .int .i64 0, .int .i64 0, .int .i64 0], [(0,1,false), (1,1,false), (2,1,false), (3,1,false), (4,1,false)], none, none, false, false, true⟩), (67, ⟨true, 5, 40, [.int .i64 0, .int .i64 0, .int .i64 0, .int .i64 0, .int .i64 0], [(0,1,false), (1,1,false), (2,1,false), (3,1,false), (4,1,false)], none, none, false, false, true⟩), (68, ⟨true, 6, 48, [.int .i64 0, .int .i64 0, .int .i64 0, .int .i64 0, .int .i64 0, .int .i64 0], [(0,2,true), (2,2,true), (4,1,false), (5,1,false)], none, none, false, false, true⟩), (69, ⟨true, 6, 48, [.int .i64 0, .int .i64 0, .int .i64 0, .int .i64 0, .int .i64 0, .int .i64 0], [(0,2,true), (2,2,true), (4,1,false), (5,1,false)], none, none, false, false, true⟩), (76, ⟨false, 1, 8, [.int .u64 0], [], none, some .u64, false, false, false⟩), (77, ⟨true, 4, 32, [.int .i64 0, .int .i64 0, .int .i64 0, .int .i64 0], [(0,2,true), (2,1,false), (3,1,false)], none, none, false, false, true⟩), (78, ⟨true, 4, 32, [.int .i64 0, .int .i64 0, .int .i64 0, .int .i64 0], [(0,2,true), (2,1,false), (3,1,false)], none, none, false, false, true⟩), (79, ⟨false, 1, 24, [.slice none 0 0], [], some 90, none, false, false, false⟩), (80, ⟨true, 5, 56, [.int .i64 0, .int .i64 0, .int .i64 0, .int .i64 0, .slice none 0 0], [(0,1,false), (1,1,false), (2,1,false), (3,1,false), (4,1,false)], none, none, false, false, false⟩), (81, ⟨true, 5, 56, [.int .i64 0, .int .i64 0, .int .i64 0, .int .i64 0, .slice none 0 0], [(0,1,false), (1,1,false), (2,1,false), (3,1,false), (4,1,false)], none, none, false, false, false⟩), (82, ⟨false, 1, 8, [.int .i64 0], [], none, some .i64, false, false, false⟩), (85, ⟨false, 1, 24, [.slice none 0 0], [], some 126, none, false, false, false⟩), (89, ⟨true, 2, 16, [.int .i64 0, .int .i64 0], [(0,1,false), (1,1,false)], none, none, false, false, true⟩), (90, ⟨true, 2, 16, [.int .i64 0, .int .i64 0], [(0,1,false), (1,1,false)], none, none, false, false, true⟩), (95, ⟨true, 3, 24, [.int .i64 0, .int .i64 0, .int .i64 0], [(0,1,false), (1,1,false), (2,1,false)], none, none, false, false, true⟩), (96, ⟨true, 3, 24, [.int .i64 0, .int .i64 0, .int .i64 0], [(0,1,false), (1,1,false), (2,1,false)], none, none, false, false, true⟩), (102, ⟨true, 4, 32, [.int .i64 0, .int .i64 0, .int .i64 0, .int .i64 0], [(0,1,false), (1,1,false), (2,1,false), (3,1,false)], none, none, false, false, true⟩), (103, ⟨true, 4, 32, [.int .i64 0, .int .i64 0, .int .i64 0, .int .i64 0], [(0,1,false), (1,1,false), (2,1,false), (3,1,false)], none, none, false, false, true⟩), (122, ⟨true, 9, 72, [.int .i64 0, .int .i64 0, .int .i64 0, .int .i64 0, .int .i64 0, .int .i64 0, .int .i64 0, .int .i64 0, .int .i64 0], [(0,1,false), (1,1,false), (2,1,false), (3,1,false), (4,1,false), (5,1,false), (6,1,false), (7,1,false), (8,1,false)], none, none, false, false, true⟩), (123, ⟨true, 9, 72, [.int .i64 0, .int .i64 0, .int .i64 0, .int .i64 0, .int .i64 0, .int .i64 0, .int .i64 0, .int .i64 0, .int .i64 0], [(0,1,false), (1,1,false), (2,1,false), (3,1,false), (4,1,false), (5,1,false), (6,1,false), (7,1,false), (8,1,false)], none, none, false, false, true⟩), (124, ⟨false, 1, 24, [.slice none 0 0], [], some 131, none, false, false, false⟩), (125, ⟨true, 11, 120, [.int .i64 0, .int .i64 0, .int .i64 0, .int .i64 0, .int .i64 0, .int .i64 0, .int .i64 0, .int .i64 0, .int .i64 0, .slice none 0 0, .slice none 0 0], [(0,9,true), (9,1,false), (10,1,false)], none, none, false, false, false⟩), (126, ⟨true, 11, 120, [.int .i64 0, .int .i64 0, .int .i64 0, .int .i64 0, .int .i64 0, .int .i64 0, .int .i64 0, .int .i64 0, .int .i64 0, .slice none 0 0, .slice none 0 0], [(0,9,true), (9,1,false), (10,1,false)], none, none, false, false, false⟩), (130, ⟨true, 7, 56, [.int .i64 0, .int .i64 0, .int .i64 0, .int .i64 0, .int .i64 0, .bool false, .int .i64 0], [(0,1,false), (1,1,false), (2,1,false), (3,1,false), (4,1,false), (5,1,false), (6,1,false)], none, none, false, false, true⟩), (131, ⟨true, 7, 56, [.int .i64 0, .int .i64 0, .int .i64 0, .int .i64 0, .int .i64 0, .bool false, .int .i64 0], [(0,1,false), (1,1,false), (2,1,false), (3,1,false), (4,1,false), (5,1,false), (6,1,false)], none, none, false, false, true⟩)]
theorem hT : TabOk Try.prog TT := .cons y3 (.cons y4 (.cons y5 (.cons y22 (.cons y25 (.cons y26 (.cons y27 (.cons y28 (.cons y29 (.cons y30 (.cons y31 (.cons y33 (.cons y34 (.cons y37 (.cons y44 (.cons y45 (.cons y46 (.cons y47 (.cons y48 (.cons y49 (.cons y50 (.cons y51 (.cons y53 (.cons y54 (.cons y57 (.cons y58 (.cons y60 (.cons y63 (.cons y66 (.cons y67 (.cons y68 (.cons y69 (.cons y76 (.cons y77 (.cons y78 (.cons y79 (.cons y80 (.cons y81 (.cons y82 (.cons y85 (.cons y89 (.cons y90 (.cons y95 (.cons y96 (.cons y102 (.cons y103 (.cons y122 (.cons y123 (.cons y124 (.cons y125 (.cons y126 (.cons y130 (.cons y131 (.nil _)))))))))))))))))))))))))))))))))))))))))))))))))))))
theorem hm : Try.prog.follows .mixedOrders = true := by kernel_rfl
abbrev I (n : Int) : AV := .r (.v (.int .i64 n))
abbrev Bo (n : Bool) : AV := .r (.v (.bool n))
theorem pI {x : Int} : ∀ r S1, (r = I x ∧ S1 = []) → plainA r = true ∧ PlainS S1 := by
  rintro r S ⟨rfl, rfl⟩
  exact ⟨rfl, PlainS.nil⟩
theorem pB {x : Bool} : ∀ r S1, (r = Bo x ∧ S1 = []) → plainA r = true ∧ PlainS S1 := by
  rintro r S ⟨rfl, rfl⟩
  exact ⟨rfl, PlainS.nil⟩
abbrev RI (x : Int) : AV → Sp → Prop := fun r S => r = I x ∧ S = []
abbrev RB (x : Bool) : AV → Sp → Prop := fun r S => r = Bo x ∧ S = []
theorem pA {x : AV} (h : plainA x = true) : ∀ r S1, (r = x ∧ S1 = []) → plainA r = true ∧ PlainS S1 := by
  rintro r S ⟨rfl, rfl⟩
  exact ⟨h, PlainS.nil⟩
/-! ### the words -/
structure Vt where
  k : Int
  i : Int
  deriving DecidableEq
structure Lk where
  k : Int
  i : Int
  d : Int
  c : Int
  deriving DecidableEq
structure Eg where
  f : Vt
  t : Vt
  c : Int
  d : Int
  deriving DecidableEq
structure Nd where
  v : Vt
  p : Int
  c : Int
  d : Int
  deriving DecidableEq
structure Sn where
  v : Vt
  p : Int
  b : Int
  deriving DecidableEq
structure Sb where
  r : Int
  p : Int
  b : Int
  c : Int
  deriving DecidableEq
structure Ls where
  age : Int
  kind : Int
  id : Int
  adv : Int
  seq : Int
  sum : Int
  len : Int
  fl : Int
  lk : List Lk
  bits : Int
  rt : List Int
  vt : List Vt
abbrev Vt.row (v : Vt) : List RV := [.v (.int .i64 v.k), .v (.int .i64 v.i)]
abbrev Vt.av (v : Vt) : AV := .agg [I v.k, I v.i]
abbrev Lk.row (v : Lk) : List RV := [.v (.int .i64 v.k), .v (.int .i64 v.i), .v (.int .i64 v.d), .v (.int .i64 v.c)]
abbrev Lk.av (v : Lk) : AV := .agg [I v.k, I v.i, I v.d, I v.c]
abbrev Eg.row (v : Eg) : List RV := [.v (.int .i64 v.f.k), .v (.int .i64 v.f.i), .v (.int .i64 v.t.k), .v (.int .i64 v.t.i), .v (.int .i64 v.c), .v (.int .i64 v.d)]
abbrev Eg.av (v : Eg) : AV := .agg [I v.f.k, I v.f.i, I v.t.k, I v.t.i, I v.c, I v.d]
abbrev Nd.row (v : Nd) : List RV := [.v (.int .i64 v.v.k), .v (.int .i64 v.v.i), .v (.int .i64 v.p), .v (.int .i64 v.c), .v (.int .i64 v.d)]
abbrev Nd.av (v : Nd) : AV := .agg [I v.v.k, I v.v.i, I v.p, I v.c, I v.d]
abbrev Sn.row (v : Sn) : List RV := [.v (.int .i64 v.v.k), .v (.int .i64 v.v.i), .v (.int .i64 v.p), .v (.int .i64 v.b)]
abbrev Sb.row (v : Sb) : List RV := [.v (.int .i64 v.r), .v (.int .i64 v.p), .v (.int .i64 v.b), .v (.int .i64 v.c)]
abbrev nRow (n : Int) : List RV := [.v (.int .i64 n)]
abbrev fK (l : List Lk) : RV := .fs 4 (l.map Lk.row)
abbrev fN (l : List Int) : RV := .fs 1 (l.map nRow)
abbrev fV (l : List Vt) : RV := .fs 2 (l.map Vt.row)
abbrev Ls.row (x : Ls) : List RV := [.v (.int .i64 x.age), .v (.int .i64 x.kind), .v (.int .i64 x.id), .v (.int .i64 x.adv), .v (.int .i64 x.seq), .v (.int .i64 x.sum), .v (.int .i64 x.len), .v (.int .i64 x.fl), fK x.lk, .v (.int .i64 x.bits), fN x.rt, fV x.vt]
abbrev Ls.cells (x : Ls) : List AV := [I x.age, I x.kind, I x.id, I x.adv, I x.seq, I x.sum, I x.len, I x.fl, .r (fK x.lk), I x.bits, .r (fN x.rt), .r (fV x.vt)]
abbrev Ls.av (x : Ls) : AV := .agg x.cells
abbrev fsL (l : List Ls) : AV := .r (.fs 12 (l.map Ls.row))
abbrev rsV (l : List Vt) : AV := .r (.rs 2 (l.map Vt.row))
abbrev rsN (l : List Int) : AV := .r (.rs 1 (l.map nRow))
abbrev eV (l : List Vt) : Option SE := some ⟨34, 2, l.map Vt.row, false⟩
abbrev eE (l : List Eg) : Option SE := some ⟨69, 6, l.map Eg.row, false⟩
abbrev eN (l : List Int) : Option SE := some ⟨3, 1, l.map nRow, false⟩
abbrev eSn (l : List Sn) : Option SE := some ⟨78, 4, l.map Sn.row, false⟩
abbrev eSb (l : List Sb) : Option SE := some ⟨103, 4, l.map Sb.row, false⟩
abbrev eNd (l : List Nd) : Option SE := some ⟨58, 5, l.map Nd.row, false⟩
def zLs : Ls := ⟨0, 0, 0, 0, 0, 0, 0, 0, [], 0, [], []⟩
def zLk : Lk := ⟨0, 0, 0, 0⟩
theorem isNaN_ok (x : Int) : FnR Try.prog 87 [I x] (RB false) := by
  refine fnR_intro (T := TT) (n := 6) Try.func87 rfl rfl rfl (fun w Z => ?_)
  (repeat (first | refine r_end ?_ | (refine r_op ?_; refine r_pure hT rfl rfl rfl rfl rfl rfl ?_) | refine gi_seq ?_ | refine gi_plain ?_))
  refine gi_retW hT Try.func87 rfl rfl [] rfl rfl rfl rfl ?_
  exact ⟨by simp [notB_eq, eqB_eq], rfl⟩
theorem Compare_ok (x y : Int) : FnR Try.prog 66 [I x, I y] (RI (cmp3 x y)) := by
  refine fnR_intro (T := TT) (n := 20) Try.func66 rfl rfl rfl (fun w Z => ?_)
  (repeat (first | refine r_end ?_ | (refine r_op ?_; refine r_pure hT rfl rfl rfl rfl rfl rfl ?_) | refine gi_seq ?_ | refine gi_plain ?_))
  refine r_call (isNaN_ok x) rfl rfl rfl rfl rfl rfl rfl rfl Try.func87 rfl rfl rfl pB ?_
  rintro r S1 ⟨rfl, rfl⟩
  (repeat (first | refine r_end ?_ | (refine r_op ?_; refine r_pure hT rfl rfl rfl rfl rfl rfl ?_) | refine gi_seq ?_ | refine gi_plain ?_))
  refine r_call (isNaN_ok y) rfl rfl rfl rfl rfl rfl rfl rfl Try.func87 rfl rfl rfl pB ?_
  rintro r S1 ⟨rfl, rfl⟩
  (repeat (first | refine r_end ?_ | (refine r_op ?_; refine r_pure hT rfl rfl rfl rfl rfl rfl ?_) | refine gi_seq ?_ | refine gi_plain ?_ | refine gi_skip ?_ | (refine gi_cnd ?_; first | refine gi_true rfl ?_ | refine gi_false rfl ?_)))
  refine gi_lt rfl (fun h1 => ?_) (fun h1 => ?_)
  · (repeat (first | refine r_end ?_ | (refine r_op ?_; refine r_pure hT rfl rfl rfl rfl rfl rfl ?_) | refine gi_seq ?_ | refine gi_plain ?_))
    refine gi_retW hT Try.func66 rfl rfl [] rfl rfl rfl rfl ?_
    exact ⟨by simp [cmp3, h1], rfl⟩
  · (repeat (first | refine r_end ?_ | (refine r_op ?_; refine r_pure hT rfl rfl rfl rfl rfl rfl ?_) | refine gi_seq ?_ | refine gi_plain ?_ | refine gi_skip ?_))
    refine gi_lt rfl (fun h2 => ?_) (fun h2 => ?_)
    · (repeat (first | refine r_end ?_ | (refine r_op ?_; refine r_pure hT rfl rfl rfl rfl rfl rfl ?_) | refine gi_seq ?_ | refine gi_plain ?_))
      refine gi_retW hT Try.func66 rfl rfl [] rfl rfl rfl rfl ?_
      exact ⟨by simp [cmp3, h1, h2], rfl⟩
    · (repeat (first | refine r_end ?_ | (refine r_op ?_; refine r_pure hT rfl rfl rfl rfl rfl rfl ?_) | refine gi_seq ?_ | refine gi_plain ?_ | refine gi_skip ?_))
      refine gi_retW hT Try.func66 rfl rfl [] rfl rfl rfl rfl ?_
      exact ⟨by simp [cmp3, h1, h2], rfl⟩
theorem orL_drop {xs : List Int} {j : Nat} {x : Int} (h : xs[j]? = some x) : orL (xs.drop j) = if x = 0 then orL (xs.drop (j + 1)) else x := by
  rw [List.drop_eq_getElem_cons (List.getElem?_eq_some_iff.1 h).1, (List.getElem?_eq_some_iff.1 h).2]
  rfl
theorem Or_ok (xs : List Int) (hl : xs.length < 1000000) : FnR Try.prog 65 [rsN xs] (RI (orL xs)) := by
  refine fnR_intro (T := TT) (n := 18) Try.func65 rfl rfl rfl (fun w Z => ?_)
  (repeat (first | refine r_end ?_ | (refine r_op ?_; refine r_pure hT rfl rfl rfl rfl rfl rfl ?_) | refine gi_seq ?_ | refine gi_plain ?_ | refine gi_block ?_))
  refine gi_loop (σ := Nat) (fun j => [(8, I j), (7, I xs.length), (6, rsN xs), (3, I 0), (2, I 0)]) (fun _ => []) (fun _ => []) (fun j => j ≤ xs.length ∧ orL (xs.drop j) = orL xs) (fun j => xs.length - j) 0 ⟨Nat.zero_le _, rfl⟩ ⟨rfl, ?_, rfl, rfl, rfl, trivial⟩ trivial trivial (fun _ => rfl) (fun j hj next => ?_)
  · show some (I ((xs.map _).length : Nat)) = _
    rw [List.length_map]
  obtain ⟨h1, h2⟩ := hj
  (repeat (first | refine r_end ?_ | (refine r_op ?_; refine r_pure hT rfl rfl rfl rfl rfl rfl ?_) | refine gi_seq ?_ | refine gi_plain ?_))
  refine gi_lt rfl (fun h3 => ?_) (fun h3 => ?_)
  · have h3' : j < xs.length := by omega
    obtain ⟨x, hx⟩ : ∃ x, xs[j]? = some x := ⟨_, List.getElem?_eq_getElem h3'⟩
    (repeat (first | refine gi_seq ?_ | refine gi_plain ?_ | refine gi_skip ?_ | refine gi_block ?_))
    refine r_idx (row := [.v (.int .i64 x)]) hT rfl rfl rfl rfl rfl rfl rfl rfl rfl rfl rfl rfl (by omega) (by simp [hx]) ?_
    (repeat (first | refine r_end ?_ | (refine r_op ?_; first | refine r_pure hT rfl rfl rfl rfl rfl rfl ?_ | refine r_load hT rfl rfl rfl rfl rfl rfl rfl rfl rfl ?_) | refine gi_seq ?_ | refine gi_plain ?_))
    refine gi_ne rfl (fun h4 => ?_) (fun h4 => ?_)
    · (repeat (first | refine r_end ?_ | (refine r_op ?_; refine r_pure hT rfl rfl rfl rfl rfl rfl ?_) | refine gi_seq ?_ | refine gi_plain ?_))
      refine gi_retW hT Try.func65 rfl rfl [] rfl rfl rfl rfl ?_
      rw [orL_drop hx, if_neg h4] at h2
      exact ⟨by rw [h2], rfl⟩
    · (repeat (first | refine r_end ?_ | (refine r_op ?_; refine r_pure hT rfl rfl rfl rfl rfl rfl ?_) | refine gi_plain ?_ | refine gi_skip ?_ | refine gi_inBlock ?_))
      refine next (j + 1) _ _ _ ⟨h3', ?_⟩ (by omega) ⟨?_, rfl, rfl, rfl, rfl, trivial⟩ trivial trivial
      · rw [orL_drop hx, if_pos h4] at h2
        exact h2
      · show some (I (wr .i64 ((j : Int) + 1))) = _
        rw [wr_i64 (by omega) (by omega)]
        simp
  · (repeat (first | refine r_end ?_ | (refine r_op ?_; refine r_pure hT rfl rfl rfl rfl rfl rfl ?_) | refine gi_seq ?_ | refine gi_plain ?_ | refine gi_exit rfl ?_))
    refine gi_retW hT Try.func65 rfl rfl [] rfl rfl rfl rfl ?_
    have : j = xs.length := by omega
    subst this
    simp [orL] at h2
    exact ⟨by rw [← h2], rfl⟩
end Go.Proofs.Ytmocggibcniggaa.Kt
