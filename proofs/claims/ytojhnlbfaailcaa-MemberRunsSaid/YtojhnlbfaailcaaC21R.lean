/- Part of the proofs of this seat's statements: what the functions compute. No condition. -/
import Derived.Test.YtojhnlbfaailcaaC21H
import Derived.Test.YtojhnlbfaailcaaK3
import Derived.Test.YtojhnlbfaailcaaRows
set_option linter.unusedSimpArgs false
set_option linter.unusedVariables false
namespace Go.Proofs.Ytojhnlbfaailcaa.Kt
open Go Kw Go.Proofs
theorem own : ownKnob Try.prog.godebug = none := by kernel_rfl
theorem laidOut : laidOutB Try.prog = true := by kernel_rfl
end Go.Proofs.Ytojhnlbfaailcaa.Kt
