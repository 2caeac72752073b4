/-
  No cell of these rows narrows 'for every input' (looked for: loops, veiled, ifaces, maps, wideKeys, modest, calm, conditions, laid).
  DERIVED. THE GIVEN ROWS OF THIS SEAT. 11 by the template 'for every input the law returns true; each argument reads behind the call as it read before'; 0 by the template 'total and deterministic' (their statements: YtlldjlhjbhkngaaTotals.lean).
  GIVEN WITH THE SEED: the statements are not yours to turn. If you find one false, say at which input.
  Laid BY PROGRAM, IN A SANDBOX (cutbox-rows.mjs): the forced cells as the released guide's own fill.sh prints them over the translation 632b9aac7fe80475… (all of the seat's roots in one cut). By AI agents, Wed Nov 11 2026. No macro, syntax, notation, axiom, sorry.
-/
import Derived.Test.YtlldjlhjbhkngaaChecked
import GoSem.Claim
import GoSem.ClaimJoined
import GoSem.ClaimMapViews
import Derived.JoinedTies
import Derived.KernelRfl
namespace Go.Proofs.Ytlldjlhjbhkngaa
/- THE CELL 'sum', in the pinned program and in every row, IS THE sha256 OF THE DUMP (.gsa) THAT YtlldjlhjbhkngaaProg.lean LOADS. Nothing in Lean hashes anything: it is a label: what it is worth is what the hold of that sum in a sandbox is worth. -/
noncomputable def Try.pinned : Pinned := { name := "ytlldjlhjbhkngaa", sum := "632b9aac7fe80475addb7bbf0023b636837e1951cca9672ca1c0d41457c92043", checked := Try.checked }
namespace Rows
def none {H : Type} : Left H := { results := [], args := [] }

/-- 'plenumlaw23.CastFalls': WHATEVER THE INPUT: true; the input reads as it did. -/
def castFallsSpec : ChangeSpec := { name := "castFalls", fn := fun _ => fun
  | [d1, d2, d3, d4, d5, d6] => { results := [.lit (.bool true)], args := [d1, d2, d3, d4, d5, d6] }
  | _ => none }
def castFallsRow : OpenClaim := { program := "ytlldjlhjbhkngaa", sum := "632b9aac7fe80475addb7bbf0023b636837e1951cca9672ca1c0d41457c92043", func := "plenum/plenumlaw23.CastFalls", spec := "castFalls", unfollowed := true, recurses := true, plainKeys := false, apart := false }
def CastFallsSaid : Prop := castFallsRow.holds Try.pinned (OpenSpec.ofChange castFallsSpec)

/-- ITS FALSE NEIGHBOUR: 'it returns false'. Refute it at one input. -/
def castFallsWrong : ChangeSpec := { name := "castFalls", fn := fun _ => fun
  | [d1, d2, d3, d4, d5, d6] => { results := [.lit (.bool false)], args := [d1, d2, d3, d4, d5, d6] }
  | _ => none }
def CastFallsWrongFalsely : Prop := castFallsRow.holds Try.pinned (OpenSpec.ofChange castFallsWrong)

/-- 'plenumlaw23.CastWild': WHATEVER THE INPUT: true; the input reads as it did. -/
def castWildSpec : ChangeSpec := { name := "castWild", fn := fun _ => fun
  | [d1, d2, d3, d4, d5, d6] => { results := [.lit (.bool true)], args := [d1, d2, d3, d4, d5, d6] }
  | _ => none }
def castWildRow : OpenClaim := { program := "ytlldjlhjbhkngaa", sum := "632b9aac7fe80475addb7bbf0023b636837e1951cca9672ca1c0d41457c92043", func := "plenum/plenumlaw23.CastWild", spec := "castWild", unfollowed := true, recurses := true, plainKeys := false, apart := false }
def CastWildSaid : Prop := castWildRow.holds Try.pinned (OpenSpec.ofChange castWildSpec)

/-- ITS FALSE NEIGHBOUR: 'it returns false'. Refute it at one input. -/
def castWildWrong : ChangeSpec := { name := "castWild", fn := fun _ => fun
  | [d1, d2, d3, d4, d5, d6] => { results := [.lit (.bool false)], args := [d1, d2, d3, d4, d5, d6] }
  | _ => none }
def CastWildWrongFalsely : Prop := castWildRow.holds Try.pinned (OpenSpec.ofChange castWildWrong)

/-- 'plenumlaw18.SpfGraphs': WHATEVER THE INPUT: true; the input reads as it did. -/
def spfGraphsSpec : ChangeSpec := { name := "spfGraphs", fn := fun _ => fun
  | [d1, d2, d3, d4] => { results := [.lit (.bool true)], args := [d1, d2, d3, d4] }
  | _ => none }
def spfGraphsRow : OpenClaim := { program := "ytlldjlhjbhkngaa", sum := "632b9aac7fe80475addb7bbf0023b636837e1951cca9672ca1c0d41457c92043", func := "plenum/plenumlaw18.SpfGraphs", spec := "spfGraphs", plainKeys := false, apart := false }
def SpfGraphsSaid : Prop := spfGraphsRow.holds Try.pinned (OpenSpec.ofChange spfGraphsSpec)

/-- ITS FALSE NEIGHBOUR: 'it returns false'. Refute it at one input. -/
def spfGraphsWrong : ChangeSpec := { name := "spfGraphs", fn := fun _ => fun
  | [d1, d2, d3, d4] => { results := [.lit (.bool false)], args := [d1, d2, d3, d4] }
  | _ => none }
def SpfGraphsWrongFalsely : Prop := spfGraphsRow.holds Try.pinned (OpenSpec.ofChange spfGraphsWrong)

/-- 'plenumlaw18.SpfLeast': WHATEVER THE INPUT: true; the input reads as it did. -/
def spfLeastSpec : ChangeSpec := { name := "spfLeast", fn := fun _ => fun
  | [d1, d2, d3, d4, d5] => { results := [.lit (.bool true)], args := [d1, d2, d3, d4, d5] }
  | _ => none }
def spfLeastRow : OpenClaim := { program := "ytlldjlhjbhkngaa", sum := "632b9aac7fe80475addb7bbf0023b636837e1951cca9672ca1c0d41457c92043", func := "plenum/plenumlaw18.SpfLeast", spec := "spfLeast", plainKeys := false, apart := false }
def SpfLeastSaid : Prop := spfLeastRow.holds Try.pinned (OpenSpec.ofChange spfLeastSpec)

/-- ITS FALSE NEIGHBOUR: 'it returns false'. Refute it at one input. -/
def spfLeastWrong : ChangeSpec := { name := "spfLeast", fn := fun _ => fun
  | [d1, d2, d3, d4, d5] => { results := [.lit (.bool false)], args := [d1, d2, d3, d4, d5] }
  | _ => none }
def SpfLeastWrongFalsely : Prop := spfLeastRow.holds Try.pinned (OpenSpec.ofChange spfLeastWrong)

/-- 'plenumlaw18.SpfParents': WHATEVER THE INPUT: true; the input reads as it did. -/
def spfParentsSpec : ChangeSpec := { name := "spfParents", fn := fun _ => fun
  | [d1, d2, d3, d4, d5] => { results := [.lit (.bool true)], args := [d1, d2, d3, d4, d5] }
  | _ => none }
def spfParentsRow : OpenClaim := { program := "ytlldjlhjbhkngaa", sum := "632b9aac7fe80475addb7bbf0023b636837e1951cca9672ca1c0d41457c92043", func := "plenum/plenumlaw18.SpfParents", spec := "spfParents", plainKeys := false, apart := false }
def SpfParentsSaid : Prop := spfParentsRow.holds Try.pinned (OpenSpec.ofChange spfParentsSpec)

/-- ITS FALSE NEIGHBOUR: 'it returns false'. Refute it at one input. -/
def spfParentsWrong : ChangeSpec := { name := "spfParents", fn := fun _ => fun
  | [d1, d2, d3, d4, d5] => { results := [.lit (.bool false)], args := [d1, d2, d3, d4, d5] }
  | _ => none }
def SpfParentsWrongFalsely : Prop := spfParentsRow.holds Try.pinned (OpenSpec.ofChange spfParentsWrong)

/-- 'plenumlaw18.SpfRows': WHATEVER THE INPUT: true; the input reads as it did. -/
def spfRowsSpec : ChangeSpec := { name := "spfRows", fn := fun _ => fun
  | [d1, d2] => { results := [.lit (.bool true)], args := [d1, d2] }
  | _ => none }
def spfRowsRow : OpenClaim := { program := "ytlldjlhjbhkngaa", sum := "632b9aac7fe80475addb7bbf0023b636837e1951cca9672ca1c0d41457c92043", func := "plenum/plenumlaw18.SpfRows", spec := "spfRows", plainKeys := false, apart := false }
def SpfRowsSaid : Prop := spfRowsRow.holds Try.pinned (OpenSpec.ofChange spfRowsSpec)

/-- ITS FALSE NEIGHBOUR: 'it returns false'. Refute it at one input. -/
def spfRowsWrong : ChangeSpec := { name := "spfRows", fn := fun _ => fun
  | [d1, d2] => { results := [.lit (.bool false)], args := [d1, d2] }
  | _ => none }
def SpfRowsWrongFalsely : Prop := spfRowsRow.holds Try.pinned (OpenSpec.ofChange spfRowsWrong)

/-- 'plenumlaw18.SpfTies': WHATEVER THE INPUT: true; the input reads as it did. -/
def spfTiesSpec : ChangeSpec := { name := "spfTies", fn := fun _ => fun
  | [d1, d2, d3] => { results := [.lit (.bool true)], args := [d1, d2, d3] }
  | _ => none }
def spfTiesRow : OpenClaim := { program := "ytlldjlhjbhkngaa", sum := "632b9aac7fe80475addb7bbf0023b636837e1951cca9672ca1c0d41457c92043", func := "plenum/plenumlaw18.SpfTies", spec := "spfTies", plainKeys := false, apart := false }
def SpfTiesSaid : Prop := spfTiesRow.holds Try.pinned (OpenSpec.ofChange spfTiesSpec)

/-- ITS FALSE NEIGHBOUR: 'it returns false'. Refute it at one input. -/
def spfTiesWrong : ChangeSpec := { name := "spfTies", fn := fun _ => fun
  | [d1, d2, d3] => { results := [.lit (.bool false)], args := [d1, d2, d3] }
  | _ => none }
def SpfTiesWrongFalsely : Prop := spfTiesRow.holds Try.pinned (OpenSpec.ofChange spfTiesWrong)

/-- 'plenumlaw18.SpfTrees': WHATEVER THE INPUT: true; the input reads as it did. -/
def spfTreesSpec : ChangeSpec := { name := "spfTrees", fn := fun _ => fun
  | [d1, d2, d3] => { results := [.lit (.bool true)], args := [d1, d2, d3] }
  | _ => none }
def spfTreesRow : OpenClaim := { program := "ytlldjlhjbhkngaa", sum := "632b9aac7fe80475addb7bbf0023b636837e1951cca9672ca1c0d41457c92043", func := "plenum/plenumlaw18.SpfTrees", spec := "spfTrees", unfollowed := true, recurses := true, plainKeys := false, apart := false }
def SpfTreesSaid : Prop := spfTreesRow.holds Try.pinned (OpenSpec.ofChange spfTreesSpec)

/-- ITS FALSE NEIGHBOUR: 'it returns false'. Refute it at one input. -/
def spfTreesWrong : ChangeSpec := { name := "spfTrees", fn := fun _ => fun
  | [d1, d2, d3] => { results := [.lit (.bool false)], args := [d1, d2, d3] }
  | _ => none }
def SpfTreesWrongFalsely : Prop := spfTreesRow.holds Try.pinned (OpenSpec.ofChange spfTreesWrong)

/-- 'plenumlaw23.CastAll': WHATEVER THE INPUT: true; the input reads as it did. -/
def castAllSpec : ChangeSpec := { name := "castAll", fn := fun _ => fun
  | [d1, d2, d3] => { results := [.lit (.bool true)], args := [d1, d2, d3] }
  | _ => none }
def castAllRow : OpenClaim := { program := "ytlldjlhjbhkngaa", sum := "632b9aac7fe80475addb7bbf0023b636837e1951cca9672ca1c0d41457c92043", func := "plenum/plenumlaw23.CastAll", spec := "castAll", unfollowed := true, recurses := true, plainKeys := false, apart := false }
def CastAllSaid : Prop := castAllRow.holds Try.pinned (OpenSpec.ofChange castAllSpec)

/-- ITS FALSE NEIGHBOUR: 'it returns false'. Refute it at one input. -/
def castAllWrong : ChangeSpec := { name := "castAll", fn := fun _ => fun
  | [d1, d2, d3] => { results := [.lit (.bool false)], args := [d1, d2, d3] }
  | _ => none }
def CastAllWrongFalsely : Prop := castAllRow.holds Try.pinned (OpenSpec.ofChange castAllWrong)

/-- 'plenumlaw23.CastGraphs': WHATEVER THE INPUT: true; the input reads as it did. -/
def castGraphsSpec : ChangeSpec := { name := "castGraphs", fn := fun _ => fun
  | [d1, d2, d3, d4, d5] => { results := [.lit (.bool true)], args := [d1, d2, d3, d4, d5] }
  | _ => none }
def castGraphsRow : OpenClaim := { program := "ytlldjlhjbhkngaa", sum := "632b9aac7fe80475addb7bbf0023b636837e1951cca9672ca1c0d41457c92043", func := "plenum/plenumlaw23.CastGraphs", spec := "castGraphs", unfollowed := true, recurses := true, plainKeys := false, apart := false }
def CastGraphsSaid : Prop := castGraphsRow.holds Try.pinned (OpenSpec.ofChange castGraphsSpec)

/-- ITS FALSE NEIGHBOUR: 'it returns false'. Refute it at one input. -/
def castGraphsWrong : ChangeSpec := { name := "castGraphs", fn := fun _ => fun
  | [d1, d2, d3, d4, d5] => { results := [.lit (.bool false)], args := [d1, d2, d3, d4, d5] }
  | _ => none }
def CastGraphsWrongFalsely : Prop := castGraphsRow.holds Try.pinned (OpenSpec.ofChange castGraphsWrong)

/-- 'plenumlaw23.CastNearest': WHATEVER THE INPUT: true; the input reads as it did. -/
def castNearestSpec : ChangeSpec := { name := "castNearest", fn := fun _ => fun
  | [d1, d2, d3] => { results := [.lit (.bool true)], args := [d1, d2, d3] }
  | _ => none }
def castNearestRow : OpenClaim := { program := "ytlldjlhjbhkngaa", sum := "632b9aac7fe80475addb7bbf0023b636837e1951cca9672ca1c0d41457c92043", func := "plenum/plenumlaw23.CastNearest", spec := "castNearest", unfollowed := true, recurses := true, plainKeys := false, apart := false }
def CastNearestSaid : Prop := castNearestRow.holds Try.pinned (OpenSpec.ofChange castNearestSpec)

/-- ITS FALSE NEIGHBOUR: 'it returns false'. Refute it at one input. -/
def castNearestWrong : ChangeSpec := { name := "castNearest", fn := fun _ => fun
  | [d1, d2, d3] => { results := [.lit (.bool false)], args := [d1, d2, d3] }
  | _ => none }
def CastNearestWrongFalsely : Prop := castNearestRow.holds Try.pinned (OpenSpec.ofChange castNearestWrong)

/- THE SECOND FORM. 'bulk': how many values and letters a reading holds, each counted each time it is reached (what is shared counts as often as it is met; a slice's spare places count too). A statement '..UptoSaid' is the law's where the arguments, and the package variables that the reading takes, are together of bulk at most 1048576: NARROWER than '..Said'. Prove '..Said' where nothing that the law and all that it calls make is longer than what came in: it says more and counts as full. Else prove '..UptoSaid'. A law counts once. -/
mutual
def uptoBulk {H : Type} : DataW H → Nat
  | .lit (.string bytes) => bytes.length + 1
  | .lit _ => 1
  | .nil => 1
  | .ptr d => uptoBulk d + 1
  | .slice elems spare => uptoBulkAll elems + uptoBulkAll spare + 1
  | .agg parts => uptoBulkAll parts + 1
  | .iface _ d => uptoBulk d + 1
  | .map entries => uptoBulkEntries entries + 1
  | .held _ => 1
def uptoBulkAll {H : Type} : List (DataW H) → Nat
  | [] => 0
  | d :: r => uptoBulk d + uptoBulkAll r
def uptoBulkEntries {H : Type} : List (Lit × DataW H) → Nat
  | [] => 0
  | x :: r => uptoBulkEntry x + uptoBulkEntries r
def uptoBulkEntry {H : Type} : Lit × DataW H → Nat
  | (.string bytes, d) => bytes.length + uptoBulk d + 1
  | (_, d) => uptoBulk d + 1
 end
def uptoSmall : (H : Type) → List (DataW H) → Bool := fun _ ds => decide (uptoBulkAll ds ≤ 1048576)
def OpenSpec.upto (s : _root_.Go.ChangeSpec) : _root_.Go.OpenSpec := { _root_.Go.OpenSpec.ofChange s with cond := some uptoSmall }

/-- 'plenumlaw23.CastFalls', WHERE WHAT IT READS IS OF BULK AT MOST 1048576: true; the input reads as it did. -/
def castFallsUptoRow : OpenClaim := { program := "ytlldjlhjbhkngaa", sum := "632b9aac7fe80475addb7bbf0023b636837e1951cca9672ca1c0d41457c92043", func := "plenum/plenumlaw23.CastFalls", spec := "castFalls", unfollowed := true, recurses := true, plainKeys := false, apart := false, narrowed := true }
def CastFallsUptoSaid : Prop := castFallsUptoRow.holds Try.pinned (OpenSpec.upto castFallsSpec)

/-- 'plenumlaw23.CastWild', WHERE WHAT IT READS IS OF BULK AT MOST 1048576: true; the input reads as it did. -/
def castWildUptoRow : OpenClaim := { program := "ytlldjlhjbhkngaa", sum := "632b9aac7fe80475addb7bbf0023b636837e1951cca9672ca1c0d41457c92043", func := "plenum/plenumlaw23.CastWild", spec := "castWild", unfollowed := true, recurses := true, plainKeys := false, apart := false, narrowed := true }
def CastWildUptoSaid : Prop := castWildUptoRow.holds Try.pinned (OpenSpec.upto castWildSpec)

/-- 'plenumlaw18.SpfGraphs', WHERE WHAT IT READS IS OF BULK AT MOST 1048576: true; the input reads as it did. -/
def spfGraphsUptoRow : OpenClaim := { program := "ytlldjlhjbhkngaa", sum := "632b9aac7fe80475addb7bbf0023b636837e1951cca9672ca1c0d41457c92043", func := "plenum/plenumlaw18.SpfGraphs", spec := "spfGraphs", plainKeys := false, apart := false, narrowed := true }
def SpfGraphsUptoSaid : Prop := spfGraphsUptoRow.holds Try.pinned (OpenSpec.upto spfGraphsSpec)

/-- 'plenumlaw18.SpfLeast', WHERE WHAT IT READS IS OF BULK AT MOST 1048576: true; the input reads as it did. -/
def spfLeastUptoRow : OpenClaim := { program := "ytlldjlhjbhkngaa", sum := "632b9aac7fe80475addb7bbf0023b636837e1951cca9672ca1c0d41457c92043", func := "plenum/plenumlaw18.SpfLeast", spec := "spfLeast", plainKeys := false, apart := false, narrowed := true }
def SpfLeastUptoSaid : Prop := spfLeastUptoRow.holds Try.pinned (OpenSpec.upto spfLeastSpec)

/-- 'plenumlaw18.SpfParents', WHERE WHAT IT READS IS OF BULK AT MOST 1048576: true; the input reads as it did. -/
def spfParentsUptoRow : OpenClaim := { program := "ytlldjlhjbhkngaa", sum := "632b9aac7fe80475addb7bbf0023b636837e1951cca9672ca1c0d41457c92043", func := "plenum/plenumlaw18.SpfParents", spec := "spfParents", plainKeys := false, apart := false, narrowed := true }
def SpfParentsUptoSaid : Prop := spfParentsUptoRow.holds Try.pinned (OpenSpec.upto spfParentsSpec)

/-- 'plenumlaw18.SpfRows', WHERE WHAT IT READS IS OF BULK AT MOST 1048576: true; the input reads as it did. -/
def spfRowsUptoRow : OpenClaim := { program := "ytlldjlhjbhkngaa", sum := "632b9aac7fe80475addb7bbf0023b636837e1951cca9672ca1c0d41457c92043", func := "plenum/plenumlaw18.SpfRows", spec := "spfRows", plainKeys := false, apart := false, narrowed := true }
def SpfRowsUptoSaid : Prop := spfRowsUptoRow.holds Try.pinned (OpenSpec.upto spfRowsSpec)

/-- 'plenumlaw18.SpfTies', WHERE WHAT IT READS IS OF BULK AT MOST 1048576: true; the input reads as it did. -/
def spfTiesUptoRow : OpenClaim := { program := "ytlldjlhjbhkngaa", sum := "632b9aac7fe80475addb7bbf0023b636837e1951cca9672ca1c0d41457c92043", func := "plenum/plenumlaw18.SpfTies", spec := "spfTies", plainKeys := false, apart := false, narrowed := true }
def SpfTiesUptoSaid : Prop := spfTiesUptoRow.holds Try.pinned (OpenSpec.upto spfTiesSpec)

/-- 'plenumlaw18.SpfTrees', WHERE WHAT IT READS IS OF BULK AT MOST 1048576: true; the input reads as it did. -/
def spfTreesUptoRow : OpenClaim := { program := "ytlldjlhjbhkngaa", sum := "632b9aac7fe80475addb7bbf0023b636837e1951cca9672ca1c0d41457c92043", func := "plenum/plenumlaw18.SpfTrees", spec := "spfTrees", unfollowed := true, recurses := true, plainKeys := false, apart := false, narrowed := true }
def SpfTreesUptoSaid : Prop := spfTreesUptoRow.holds Try.pinned (OpenSpec.upto spfTreesSpec)

/-- 'plenumlaw23.CastAll', WHERE WHAT IT READS IS OF BULK AT MOST 1048576: true; the input reads as it did. -/
def castAllUptoRow : OpenClaim := { program := "ytlldjlhjbhkngaa", sum := "632b9aac7fe80475addb7bbf0023b636837e1951cca9672ca1c0d41457c92043", func := "plenum/plenumlaw23.CastAll", spec := "castAll", unfollowed := true, recurses := true, plainKeys := false, apart := false, narrowed := true }
def CastAllUptoSaid : Prop := castAllUptoRow.holds Try.pinned (OpenSpec.upto castAllSpec)

/-- 'plenumlaw23.CastGraphs', WHERE WHAT IT READS IS OF BULK AT MOST 1048576: true; the input reads as it did. -/
def castGraphsUptoRow : OpenClaim := { program := "ytlldjlhjbhkngaa", sum := "632b9aac7fe80475addb7bbf0023b636837e1951cca9672ca1c0d41457c92043", func := "plenum/plenumlaw23.CastGraphs", spec := "castGraphs", unfollowed := true, recurses := true, plainKeys := false, apart := false, narrowed := true }
def CastGraphsUptoSaid : Prop := castGraphsUptoRow.holds Try.pinned (OpenSpec.upto castGraphsSpec)

/-- 'plenumlaw23.CastNearest', WHERE WHAT IT READS IS OF BULK AT MOST 1048576: true; the input reads as it did. -/
def castNearestUptoRow : OpenClaim := { program := "ytlldjlhjbhkngaa", sum := "632b9aac7fe80475addb7bbf0023b636837e1951cca9672ca1c0d41457c92043", func := "plenum/plenumlaw23.CastNearest", spec := "castNearest", unfollowed := true, recurses := true, plainKeys := false, apart := false, narrowed := true }
def CastNearestUptoSaid : Prop := castNearestUptoRow.holds Try.pinned (OpenSpec.upto castNearestSpec)

end Rows
end Go.Proofs.Ytlldjlhjbhkngaa
