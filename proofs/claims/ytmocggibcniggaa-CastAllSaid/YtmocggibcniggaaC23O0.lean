/- Part of the proofs of this seat's statements: what the functions compute. No condition. -/
import Derived.Test.YtmocggibcniggaaC23N
import Derived.Test.YtmocggibcniggaaC18Aa
set_option linter.unusedSimpArgs false
set_option linter.unusedVariables false
namespace Go.Proofs.Ytmocggibcniggaa.Kt
open Go Kw Go.Proofs
theorem pTreeLC (l : List Ls) (root : Vt) (h : Few l) : FnR Try.prog 49 [avMf (mapL l), root.av] (RT1 (refTree (mapL l) root)) := pTreeL l root h
theorem Nodes_okC (t : List Nd) (h : t.length < 1000000) : FnR Try.prog 21 [rsNd t, rsNd t] (RB true) := Nodes_ok t h
end Go.Proofs.Ytmocggibcniggaa.Kt
