/-
  No cell of these rows narrows 'for every input' (looked for: loops, veiled, ifaces, maps, wideKeys, modest, calm, conditions, laid).
  DERIVED. THE GIVEN ROWS OF THIS SEAT. 6 by the template 'for every input the law returns true; each argument reads behind the call as it read before'; 0 by the template 'total and deterministic' (their statements: YtojhnlbfaailcaaTotals.lean).
  GIVEN WITH THE SEED: the statements are not yours to turn. If you find one false, say at which input.
  Laid BY PROGRAM, IN A SANDBOX (cutbox-rows.mjs): the forced cells as the released guide's own fill.sh prints them over the translation 11dd31713873c1c3… (all of the seat's roots in one cut). By AI agents, Wed Nov 11 2026. No macro, syntax, notation, axiom, sorry.
-/
import Derived.Test.YtojhnlbfaailcaaChecked
import GoSem.Claim
import GoSem.ClaimJoined
import GoSem.ClaimMapViews
import Derived.JoinedTies
import Derived.KernelRfl
namespace Go.Proofs.Ytojhnlbfaailcaa
/- THE CELL 'sum', in the pinned program and in every row, IS THE sha256 OF THE DUMP (.gsa) THAT YtojhnlbfaailcaaProg.lean LOADS. Nothing in Lean hashes anything: it is a label: what it is worth is what the hold of that sum in a sandbox is worth. -/
noncomputable def Try.pinned : Pinned := { name := "ytojhnlbfaailcaa", sum := "11dd31713873c1c3eeff313a1df4c7b91fb093bd82341d6f3ae7330c4f99b6de", checked := Try.checked }
namespace Rows
def none {H : Type} : Left H := { results := [], args := [] }

/-- 'plenumlaw21.MemberStays': WHATEVER THE INPUT: true; the input reads as it did. -/
def memberStaysSpec : ChangeSpec := { name := "memberStays", fn := fun _ => fun
  | [d1, d2, d3] => { results := [.lit (.bool true)], args := [d1, d2, d3] }
  | _ => none }
def memberStaysRow : OpenClaim := { program := "ytojhnlbfaailcaa", sum := "11dd31713873c1c3eeff313a1df4c7b91fb093bd82341d6f3ae7330c4f99b6de", func := "plenum/plenumlaw21.MemberStays", spec := "memberStays", inPlace := ["slices.overlaps[plenum/member.entry]"], unfollowed := true, recurses := true, apart := false }
def MemberStaysSaid : Prop := memberStaysRow.holds Try.pinned (OpenSpec.ofChange memberStaysSpec)

/-- ITS FALSE NEIGHBOUR: 'it returns false'. Refute it at one input. -/
def memberStaysWrong : ChangeSpec := { name := "memberStays", fn := fun _ => fun
  | [d1, d2, d3] => { results := [.lit (.bool false)], args := [d1, d2, d3] }
  | _ => none }
def MemberStaysWrongFalsely : Prop := memberStaysRow.holds Try.pinned (OpenSpec.ofChange memberStaysWrong)

/-- 'plenumlaw21.MemberHears': WHATEVER THE INPUT: true; the input reads as it did. -/
def memberHearsSpec : ChangeSpec := { name := "memberHears", fn := fun _ => fun
  | [d1, d2, d3] => { results := [.lit (.bool true)], args := [d1, d2, d3] }
  | _ => none }
def memberHearsRow : OpenClaim := { program := "ytojhnlbfaailcaa", sum := "11dd31713873c1c3eeff313a1df4c7b91fb093bd82341d6f3ae7330c4f99b6de", func := "plenum/plenumlaw21.MemberHears", spec := "memberHears", inPlace := ["slices.overlaps[plenum/member.entry]"], unfollowed := true, recurses := true, apart := false }
def MemberHearsSaid : Prop := memberHearsRow.holds Try.pinned (OpenSpec.ofChange memberHearsSpec)

/-- ITS FALSE NEIGHBOUR: 'it returns false'. Refute it at one input. -/
def memberHearsWrong : ChangeSpec := { name := "memberHears", fn := fun _ => fun
  | [d1, d2, d3] => { results := [.lit (.bool false)], args := [d1, d2, d3] }
  | _ => none }
def MemberHearsWrongFalsely : Prop := memberHearsRow.holds Try.pinned (OpenSpec.ofChange memberHearsWrong)

/-- 'plenumlaw21.MemberLeaves': WHATEVER THE INPUT: true; the input reads as it did. -/
def memberLeavesSpec : ChangeSpec := { name := "memberLeaves", fn := fun _ => fun
  | [d1, d2, d3, d4] => { results := [.lit (.bool true)], args := [d1, d2, d3, d4] }
  | _ => none }
def memberLeavesRow : OpenClaim := { program := "ytojhnlbfaailcaa", sum := "11dd31713873c1c3eeff313a1df4c7b91fb093bd82341d6f3ae7330c4f99b6de", func := "plenum/plenumlaw21.MemberLeaves", spec := "memberLeaves", inPlace := ["slices.overlaps[plenum/member.entry]"], unfollowed := true, recurses := true, apart := false }
def MemberLeavesSaid : Prop := memberLeavesRow.holds Try.pinned (OpenSpec.ofChange memberLeavesSpec)

/-- ITS FALSE NEIGHBOUR: 'it returns false'. Refute it at one input. -/
def memberLeavesWrong : ChangeSpec := { name := "memberLeaves", fn := fun _ => fun
  | [d1, d2, d3, d4] => { results := [.lit (.bool false)], args := [d1, d2, d3, d4] }
  | _ => none }
def MemberLeavesWrongFalsely : Prop := memberLeavesRow.holds Try.pinned (OpenSpec.ofChange memberLeavesWrong)

/-- 'plenumlaw21.MemberMany': WHATEVER THE INPUT: true; the input reads as it did. -/
def memberManySpec : ChangeSpec := { name := "memberMany", fn := fun _ => fun
  | [d1, d2] => { results := [.lit (.bool true)], args := [d1, d2] }
  | _ => none }
def memberManyRow : OpenClaim := { program := "ytojhnlbfaailcaa", sum := "11dd31713873c1c3eeff313a1df4c7b91fb093bd82341d6f3ae7330c4f99b6de", func := "plenum/plenumlaw21.MemberMany", spec := "memberMany", inPlace := ["slices.overlaps[plenum/member.entry]"], unfollowed := true, recurses := true, apart := false }
def MemberManySaid : Prop := memberManyRow.holds Try.pinned (OpenSpec.ofChange memberManySpec)

/-- ITS FALSE NEIGHBOUR: 'it returns false'. Refute it at one input. -/
def memberManyWrong : ChangeSpec := { name := "memberMany", fn := fun _ => fun
  | [d1, d2] => { results := [.lit (.bool false)], args := [d1, d2] }
  | _ => none }
def MemberManyWrongFalsely : Prop := memberManyRow.holds Try.pinned (OpenSpec.ofChange memberManyWrong)

/-- 'plenumlaw21.MemberRuns': WHATEVER THE INPUT: true; the input reads as it did. -/
def memberRunsSpec : ChangeSpec := { name := "memberRuns", fn := fun _ => fun
  | [d] => { results := [.lit (.bool true)], args := [d] }
  | _ => none }
def memberRunsRow : OpenClaim := { program := "ytojhnlbfaailcaa", sum := "11dd31713873c1c3eeff313a1df4c7b91fb093bd82341d6f3ae7330c4f99b6de", func := "plenum/plenumlaw21.MemberRuns", spec := "memberRuns", inPlace := ["slices.overlaps[plenum/member.entry]"], unfollowed := true, recurses := true, apart := false }
def MemberRunsSaid : Prop := memberRunsRow.holds Try.pinned (OpenSpec.ofChange memberRunsSpec)

/-- ITS FALSE NEIGHBOUR: 'it returns false'. Refute it at one input. -/
def memberRunsWrong : ChangeSpec := { name := "memberRuns", fn := fun _ => fun
  | [d] => { results := [.lit (.bool false)], args := [d] }
  | _ => none }
def MemberRunsWrongFalsely : Prop := memberRunsRow.holds Try.pinned (OpenSpec.ofChange memberRunsWrong)

/-- 'plenumlaw21.MemberNil': WHATEVER THE INPUT: true; the input reads as it did. -/
def memberNilSpec : ChangeSpec := { name := "memberNil", fn := fun _ => fun
  | [d] => { results := [.lit (.bool true)], args := [d] }
  | _ => none }
def memberNilRow : OpenClaim := { program := "ytojhnlbfaailcaa", sum := "11dd31713873c1c3eeff313a1df4c7b91fb093bd82341d6f3ae7330c4f99b6de", func := "plenum/plenumlaw21.MemberNil", spec := "memberNil", inPlace := ["slices.overlaps[plenum/member.entry]"], unfollowed := true, recurses := true, apart := false }
def MemberNilSaid : Prop := memberNilRow.holds Try.pinned (OpenSpec.ofChange memberNilSpec)

/-- ITS FALSE NEIGHBOUR: 'it returns false'. Refute it at one input. -/
def memberNilWrong : ChangeSpec := { name := "memberNil", fn := fun _ => fun
  | [d] => { results := [.lit (.bool false)], args := [d] }
  | _ => none }
def MemberNilWrongFalsely : Prop := memberNilRow.holds Try.pinned (OpenSpec.ofChange memberNilWrong)

/- THE SECOND FORM. 'bulk': how many values and letters a reading holds, each counted each time it is reached (what is shared counts as often as it is met; a slice's spare places count too). A statement '..UptoSaid' is the law's where the arguments, and the package variables that the reading takes, are together of bulk at most 1048576: NARROWER than '..Said'. Prove '..Said' where nothing that the law and all that it calls make is longer than what came in: it says more and counts as full. Else prove '..UptoSaid'. A law counts once. -/
mutual
def uptoBulk {H : Type} : DataW H → Nat
  | .lit (.string bytes) => bytes.length + 1
  | .lit _ => 1
  | .nil => 1
  | .ptr d => uptoBulk d + 1
  | .slice elems spare => uptoBulkAll elems + uptoBulkAll spare + 1
  | .agg parts => uptoBulkAll parts + 1
  | .iface _ d => uptoBulk d + 1
  | .map entries => uptoBulkEntries entries + 1
  | .held _ => 1
def uptoBulkAll {H : Type} : List (DataW H) → Nat
  | [] => 0
  | d :: r => uptoBulk d + uptoBulkAll r
def uptoBulkEntries {H : Type} : List (Lit × DataW H) → Nat
  | [] => 0
  | x :: r => uptoBulkEntry x + uptoBulkEntries r
def uptoBulkEntry {H : Type} : Lit × DataW H → Nat
  | (.string bytes, d) => bytes.length + uptoBulk d + 1
  | (_, d) => uptoBulk d + 1
 end
def uptoSmall : (H : Type) → List (DataW H) → Bool := fun _ ds => decide (uptoBulkAll ds ≤ 1048576)
def OpenSpec.upto (s : _root_.Go.ChangeSpec) : _root_.Go.OpenSpec := { _root_.Go.OpenSpec.ofChange s with cond := some uptoSmall }

/-- 'plenumlaw21.MemberStays', WHERE WHAT IT READS IS OF BULK AT MOST 1048576: true; the input reads as it did. -/
def memberStaysUptoRow : OpenClaim := { program := "ytojhnlbfaailcaa", sum := "11dd31713873c1c3eeff313a1df4c7b91fb093bd82341d6f3ae7330c4f99b6de", func := "plenum/plenumlaw21.MemberStays", spec := "memberStays", inPlace := ["slices.overlaps[plenum/member.entry]"], unfollowed := true, recurses := true, apart := false, narrowed := true }
def MemberStaysUptoSaid : Prop := memberStaysUptoRow.holds Try.pinned (OpenSpec.upto memberStaysSpec)

/-- 'plenumlaw21.MemberHears', WHERE WHAT IT READS IS OF BULK AT MOST 1048576: true; the input reads as it did. -/
def memberHearsUptoRow : OpenClaim := { program := "ytojhnlbfaailcaa", sum := "11dd31713873c1c3eeff313a1df4c7b91fb093bd82341d6f3ae7330c4f99b6de", func := "plenum/plenumlaw21.MemberHears", spec := "memberHears", inPlace := ["slices.overlaps[plenum/member.entry]"], unfollowed := true, recurses := true, apart := false, narrowed := true }
def MemberHearsUptoSaid : Prop := memberHearsUptoRow.holds Try.pinned (OpenSpec.upto memberHearsSpec)

/-- 'plenumlaw21.MemberLeaves', WHERE WHAT IT READS IS OF BULK AT MOST 1048576: true; the input reads as it did. -/
def memberLeavesUptoRow : OpenClaim := { program := "ytojhnlbfaailcaa", sum := "11dd31713873c1c3eeff313a1df4c7b91fb093bd82341d6f3ae7330c4f99b6de", func := "plenum/plenumlaw21.MemberLeaves", spec := "memberLeaves", inPlace := ["slices.overlaps[plenum/member.entry]"], unfollowed := true, recurses := true, apart := false, narrowed := true }
def MemberLeavesUptoSaid : Prop := memberLeavesUptoRow.holds Try.pinned (OpenSpec.upto memberLeavesSpec)

/-- 'plenumlaw21.MemberMany', WHERE WHAT IT READS IS OF BULK AT MOST 1048576: true; the input reads as it did. -/
def memberManyUptoRow : OpenClaim := { program := "ytojhnlbfaailcaa", sum := "11dd31713873c1c3eeff313a1df4c7b91fb093bd82341d6f3ae7330c4f99b6de", func := "plenum/plenumlaw21.MemberMany", spec := "memberMany", inPlace := ["slices.overlaps[plenum/member.entry]"], unfollowed := true, recurses := true, apart := false, narrowed := true }
def MemberManyUptoSaid : Prop := memberManyUptoRow.holds Try.pinned (OpenSpec.upto memberManySpec)

/-- 'plenumlaw21.MemberRuns', WHERE WHAT IT READS IS OF BULK AT MOST 1048576: true; the input reads as it did. -/
def memberRunsUptoRow : OpenClaim := { program := "ytojhnlbfaailcaa", sum := "11dd31713873c1c3eeff313a1df4c7b91fb093bd82341d6f3ae7330c4f99b6de", func := "plenum/plenumlaw21.MemberRuns", spec := "memberRuns", inPlace := ["slices.overlaps[plenum/member.entry]"], unfollowed := true, recurses := true, apart := false, narrowed := true }
def MemberRunsUptoSaid : Prop := memberRunsUptoRow.holds Try.pinned (OpenSpec.upto memberRunsSpec)

/-- 'plenumlaw21.MemberNil', WHERE WHAT IT READS IS OF BULK AT MOST 1048576: true; the input reads as it did. -/
def memberNilUptoRow : OpenClaim := { program := "ytojhnlbfaailcaa", sum := "11dd31713873c1c3eeff313a1df4c7b91fb093bd82341d6f3ae7330c4f99b6de", func := "plenum/plenumlaw21.MemberNil", spec := "memberNil", inPlace := ["slices.overlaps[plenum/member.entry]"], unfollowed := true, recurses := true, apart := false, narrowed := true }
def MemberNilUptoSaid : Prop := memberNilUptoRow.holds Try.pinned (OpenSpec.upto memberNilSpec)

end Rows
end Go.Proofs.Ytojhnlbfaailcaa
