/- Part of the proofs of this seat's statements: what the functions compute. No condition. -/
import Derived.Test.YtpkkaadflbppcaaC25H
import Derived.Test.YtpkkaadflbppcaaK4
import Derived.Shelf.SlSortCmp.WholeK
set_option linter.unusedSimpArgs false
set_option linter.unusedVariables false
namespace Go.Proofs.Ytpkkaadflbppcaa.Kt
open Go Kw Go.Proofs Go.Shelf
set_option maxRecDepth 100000
def sortE29_ren : Go.Shelf.Ren := ⟨fun | 6 => 29 | 15 => 40 | 14 => 39 | 28 => 50 | 29 => 51 | 20 => 42 | 21 => 43 | 22 => 44 | 23 => 45 | 24 => 46 | 25 => 47 | 26 => 48 | 27 => 49 | 46 => 52 | 47 => 53 | 48 => 54 | 49 => 55 | 50 => 56 | 57 => 57 | n => n, fun | 22 => 42 | 24 => 37 | 25 => 68 | 3 => 3 | 39 => 74 | 0 => 0 | 53 => 86 | 55 => 88 | 4 => 4 | 46 => 79 | 45 => 78 | 50 => 83 | 5 => 5 | 9 => 9 | 66 => 89 | 70 => 93 | 76 => 95 | 77 => 96 | n => n, fun | n => n⟩
theorem sortE29 : Go.Proofs.SlLaysF0.n6 Try.prog sortE29_ren := {
  mixed := by kernel_rfl
  f6 := ⟨Try.f29.name, by decide, Try.func29.trans (congrArg some (by kernel_rfl))⟩
  f14 := ⟨Try.f39.name, by decide, Try.func39.trans (congrArg some (by kernel_rfl))⟩
  f15 := Try.func40.trans (congrArg some (by kernel_rfl))
  f20 := ⟨Try.f42.name, by decide, Try.func42.trans (congrArg some (by kernel_rfl))⟩
  f21 := ⟨Try.f43.name, by decide, Try.func43.trans (congrArg some (by kernel_rfl))⟩
  f22 := ⟨Try.f44.name, by decide, Try.func44.trans (congrArg some (by kernel_rfl))⟩
  f23 := ⟨Try.f45.name, by decide, Try.func45.trans (congrArg some (by kernel_rfl))⟩
  f24 := ⟨Try.f46.name, by decide, Try.func46.trans (congrArg some (by kernel_rfl))⟩
  f25 := ⟨Try.f47.name, by decide, Try.func47.trans (congrArg some (by kernel_rfl))⟩
  f26 := ⟨Try.f48.name, by decide, Try.func48.trans (congrArg some (by kernel_rfl))⟩
  f27 := ⟨Try.f49.name, by decide, Try.func49.trans (congrArg some (by kernel_rfl))⟩
  f28 := Try.func50.trans (congrArg some (by kernel_rfl))
  f29 := Try.func51.trans (congrArg some (by kernel_rfl))
  f46 := ⟨Try.f52.name, by decide, Try.func52.trans (congrArg some (by kernel_rfl))⟩
  f47 := Try.func53.trans (congrArg some (by kernel_rfl))
  f48 := Try.func54.trans (congrArg some (by kernel_rfl))
  f49 := ⟨Try.f55.name, by decide, Try.func55.trans (congrArg some (by kernel_rfl))⟩
  f50 := ⟨Try.f56.name, by decide, Try.func56.trans (congrArg some (by kernel_rfl))⟩
  f57 := ⟨Try.f57.name, by decide, Try.func57.trans (congrArg some (by kernel_rfl))⟩
  t0 := Try.underlying0
  a0 := Try.isAgg0
  z0 := Try.sizeOf0
  v0 := Try.zeroValue0
  t3 := Try.underlying3
  a3 := Try.isAgg3
  z3 := Try.sizeOf3
  v3 := Try.zeroValue3
  t4 := Try.underlying4
  a4 := Try.isAgg4
  z4 := Try.sizeOf4
  v4 := Try.zeroValue4
  t5 := Try.underlying5
  a5 := Try.isAgg5
  z5 := Try.sizeOf5
  v5 := Try.zeroValue5
  t9 := Try.underlying9
  a9 := Try.isAgg9
  z9 := Try.sizeOf9
  v9 := Try.zeroValue9
  t22 := Try.underlying42
  a22 := Try.isAgg42
  z22 := Try.sizeOf42
  v22 := Try.zeroValue42
  t25 := Try.underlying68
  a25 := Try.isAgg68
  z25 := Try.sizeOf68
  v25 := Try.zeroValue68
  t39 := Try.underlying74
  a39 := Try.isAgg74
  z39 := Try.sizeOf74
  v39 := Try.zeroValue74
  t45 := Try.underlying78
  a45 := Try.isAgg78
  z45 := Try.sizeOf78
  v45 := Try.zeroValue78
  t46 := Try.underlying79
  a46 := Try.isAgg79
  z46 := Try.sizeOf79
  v46 := Try.zeroValue79
  t50 := Try.underlying83
  a50 := Try.isAgg83
  z50 := Try.sizeOf83
  v50 := Try.zeroValue83
  t53 := Try.underlying86
  a53 := Try.isAgg86
  z53 := Try.sizeOf86
  v53 := Try.zeroValue86
  t55 := Try.underlying88
  a55 := Try.isAgg88
  z55 := Try.sizeOf88
  v55 := Try.zeroValue88
  t66 := Try.underlying89
  a66 := Try.isAgg89
  z66 := Try.sizeOf89
  v66 := Try.zeroValue89
  t70 := Try.underlying93
  a70 := Try.isAgg93
  z70 := Try.sizeOf93
  v70 := Try.zeroValue93
  t76 := Try.underlying95
  a76 := Try.isAgg95
  z76 := Try.sizeOf95
  v76 := Try.zeroValue95
  t77 := Try.underlying96
  a77 := Try.isAgg96
  z77 := Try.sizeOf96
  v77 := Try.zeroValue96 }
end Go.Proofs.Ytpkkaadflbppcaa.Kt
