/-
  No cell of these rows narrows 'for every input' (looked for: loops, veiled, ifaces, maps, wideKeys, modest, calm, conditions, laid).
  DERIVED. THE GIVEN ROWS OF THIS SEAT. 6 by the template 'for every input the law returns true; each argument reads behind the call as it read before'; 0 by the template 'total and deterministic' (their statements: YtpkkaadflbppcaaTotals.lean).
  GIVEN WITH THE SEED: the statements are not yours to turn. If you find one false, say at which input.
  Laid BY PROGRAM, IN A SANDBOX (cutbox-rows.mjs): the forced cells as the released guide's own fill.sh prints them over the translation f772b6acd4254958… (all of the seat's roots in one cut). By AI agents, Wed Nov 11 2026. No macro, syntax, notation, axiom, sorry.
-/
import Derived.Test.YtpkkaadflbppcaaChecked
import GoSem.Claim
import GoSem.ClaimJoined
import GoSem.ClaimMapViews
import Derived.JoinedTies
import Derived.KernelRfl
namespace Go.Proofs.Ytpkkaadflbppcaa
/- THE CELL 'sum', in the pinned program and in every row, IS THE sha256 OF THE DUMP (.gsa) THAT YtpkkaadflbppcaaProg.lean LOADS. Nothing in Lean hashes anything: it is a label: what it is worth is what the hold of that sum in a sandbox is worth. -/
noncomputable def Try.pinned : Pinned := { name := "ytpkkaadflbppcaa", sum := "f772b6acd42549585dddec8cd56f52780d511b6809a864b2be219e07f1cdae8b", checked := Try.checked }
namespace Rows
def none {H : Type} : Left H := { results := [], args := [] }

/-- 'plenumlaw12.FaceWants': WHATEVER THE INPUT: true; the input reads as it did. -/
def faceWantsSpec : ChangeSpec := { name := "faceWants", fn := fun _ => fun
  | [d1, d2, d3] => { results := [.lit (.bool true)], args := [d1, d2, d3] }
  | _ => none }
def faceWantsRow : OpenClaim := { program := "ytpkkaadflbppcaa", sum := "f772b6acd42549585dddec8cd56f52780d511b6809a864b2be219e07f1cdae8b", func := "plenum/plenumlaw12.FaceWants", spec := "faceWants", apart := false }
def FaceWantsSaid : Prop := faceWantsRow.holds Try.pinned (OpenSpec.ofChange faceWantsSpec)

/-- ITS FALSE NEIGHBOUR: 'it returns false'. Refute it at one input. -/
def faceWantsWrong : ChangeSpec := { name := "faceWants", fn := fun _ => fun
  | [d1, d2, d3] => { results := [.lit (.bool false)], args := [d1, d2, d3] }
  | _ => none }
def FaceWantsWrongFalsely : Prop := faceWantsRow.holds Try.pinned (OpenSpec.ofChange faceWantsWrong)

/-- 'plenumlaw25.CacheUsed': WHATEVER THE INPUT: true; the input reads as it did. -/
def cacheUsedSpec : ChangeSpec := { name := "cacheUsed", fn := fun _ => fun
  | [d1, d2] => { results := [.lit (.bool true)], args := [d1, d2] }
  | _ => none }
def cacheUsedRow : OpenClaim := { program := "ytpkkaadflbppcaa", sum := "f772b6acd42549585dddec8cd56f52780d511b6809a864b2be219e07f1cdae8b", func := "plenum/plenumlaw25.CacheUsed", spec := "cacheUsed", unfollowed := true, recurses := true, apart := false }
def CacheUsedSaid : Prop := cacheUsedRow.holds Try.pinned (OpenSpec.ofChange cacheUsedSpec)

/-- ITS FALSE NEIGHBOUR: 'it returns false'. Refute it at one input. -/
def cacheUsedWrong : ChangeSpec := { name := "cacheUsed", fn := fun _ => fun
  | [d1, d2] => { results := [.lit (.bool false)], args := [d1, d2] }
  | _ => none }
def CacheUsedWrongFalsely : Prop := cacheUsedRow.holds Try.pinned (OpenSpec.ofChange cacheUsedWrong)

/-- 'plenumlaw25.CacheRoom': WHATEVER THE INPUT: true; the input reads as it did. -/
def cacheRoomSpec : ChangeSpec := { name := "cacheRoom", fn := fun _ => fun
  | [d1, d2] => { results := [.lit (.bool true)], args := [d1, d2] }
  | _ => none }
def cacheRoomRow : OpenClaim := { program := "ytpkkaadflbppcaa", sum := "f772b6acd42549585dddec8cd56f52780d511b6809a864b2be219e07f1cdae8b", func := "plenum/plenumlaw25.CacheRoom", spec := "cacheRoom", unfollowed := true, recurses := true, apart := false }
def CacheRoomSaid : Prop := cacheRoomRow.holds Try.pinned (OpenSpec.ofChange cacheRoomSpec)

/-- ITS FALSE NEIGHBOUR: 'it returns false'. Refute it at one input. -/
def cacheRoomWrong : ChangeSpec := { name := "cacheRoom", fn := fun _ => fun
  | [d1, d2] => { results := [.lit (.bool false)], args := [d1, d2] }
  | _ => none }
def CacheRoomWrongFalsely : Prop := cacheRoomRow.holds Try.pinned (OpenSpec.ofChange cacheRoomWrong)

/-- 'plenumlaw25.CacheRuns': WHATEVER THE INPUT: true; the input reads as it did. -/
def cacheRunsSpec : ChangeSpec := { name := "cacheRuns", fn := fun _ => fun
  | [d1, d2] => { results := [.lit (.bool true)], args := [d1, d2] }
  | _ => none }
def cacheRunsRow : OpenClaim := { program := "ytpkkaadflbppcaa", sum := "f772b6acd42549585dddec8cd56f52780d511b6809a864b2be219e07f1cdae8b", func := "plenum/plenumlaw25.CacheRuns", spec := "cacheRuns", unfollowed := true, recurses := true, apart := false }
def CacheRunsSaid : Prop := cacheRunsRow.holds Try.pinned (OpenSpec.ofChange cacheRunsSpec)

/-- ITS FALSE NEIGHBOUR: 'it returns false'. Refute it at one input. -/
def cacheRunsWrong : ChangeSpec := { name := "cacheRuns", fn := fun _ => fun
  | [d1, d2] => { results := [.lit (.bool false)], args := [d1, d2] }
  | _ => none }
def CacheRunsWrongFalsely : Prop := cacheRunsRow.holds Try.pinned (OpenSpec.ofChange cacheRunsWrong)

/-- 'plenumlaw25.CacheNil': WHATEVER THE INPUT: true; the input reads as it did. -/
def cacheNilSpec : ChangeSpec := { name := "cacheNil", fn := fun _ => fun
  | [d] => { results := [.lit (.bool true)], args := [d] }
  | _ => none }
def cacheNilRow : OpenClaim := { program := "ytpkkaadflbppcaa", sum := "f772b6acd42549585dddec8cd56f52780d511b6809a864b2be219e07f1cdae8b", func := "plenum/plenumlaw25.CacheNil", spec := "cacheNil", unfollowed := true, recurses := true, apart := false }
def CacheNilSaid : Prop := cacheNilRow.holds Try.pinned (OpenSpec.ofChange cacheNilSpec)

/-- ITS FALSE NEIGHBOUR: 'it returns false'. Refute it at one input. -/
def cacheNilWrong : ChangeSpec := { name := "cacheNil", fn := fun _ => fun
  | [d] => { results := [.lit (.bool false)], args := [d] }
  | _ => none }
def CacheNilWrongFalsely : Prop := cacheNilRow.holds Try.pinned (OpenSpec.ofChange cacheNilWrong)

/-- 'plenumlaw25.CacheClears': WHATEVER THE INPUT: true; the input reads as it did. -/
def cacheClearsSpec : ChangeSpec := { name := "cacheClears", fn := fun _ => fun
  | [d1, d2] => { results := [.lit (.bool true)], args := [d1, d2] }
  | _ => none }
def cacheClearsRow : OpenClaim := { program := "ytpkkaadflbppcaa", sum := "f772b6acd42549585dddec8cd56f52780d511b6809a864b2be219e07f1cdae8b", func := "plenum/plenumlaw25.CacheClears", spec := "cacheClears", unfollowed := true, recurses := true, apart := false }
def CacheClearsSaid : Prop := cacheClearsRow.holds Try.pinned (OpenSpec.ofChange cacheClearsSpec)

/-- ITS FALSE NEIGHBOUR: 'it returns false'. Refute it at one input. -/
def cacheClearsWrong : ChangeSpec := { name := "cacheClears", fn := fun _ => fun
  | [d1, d2] => { results := [.lit (.bool false)], args := [d1, d2] }
  | _ => none }
def CacheClearsWrongFalsely : Prop := cacheClearsRow.holds Try.pinned (OpenSpec.ofChange cacheClearsWrong)

/- THE SECOND FORM. 'bulk': how many values and letters a reading holds, each counted each time it is reached (what is shared counts as often as it is met; a slice's spare places count too). A statement '..UptoSaid' is the law's where the arguments, and the package variables that the reading takes, are together of bulk at most 1048576: NARROWER than '..Said'. Prove '..Said' where nothing that the law and all that it calls make is longer than what came in: it says more and counts as full. Else prove '..UptoSaid'. A law counts once. -/
mutual
def uptoBulk {H : Type} : DataW H → Nat
  | .lit (.string bytes) => bytes.length + 1
  | .lit _ => 1
  | .nil => 1
  | .ptr d => uptoBulk d + 1
  | .slice elems spare => uptoBulkAll elems + uptoBulkAll spare + 1
  | .agg parts => uptoBulkAll parts + 1
  | .iface _ d => uptoBulk d + 1
  | .map entries => uptoBulkEntries entries + 1
  | .held _ => 1
def uptoBulkAll {H : Type} : List (DataW H) → Nat
  | [] => 0
  | d :: r => uptoBulk d + uptoBulkAll r
def uptoBulkEntries {H : Type} : List (Lit × DataW H) → Nat
  | [] => 0
  | x :: r => uptoBulkEntry x + uptoBulkEntries r
def uptoBulkEntry {H : Type} : Lit × DataW H → Nat
  | (.string bytes, d) => bytes.length + uptoBulk d + 1
  | (_, d) => uptoBulk d + 1
 end
def uptoSmall : (H : Type) → List (DataW H) → Bool := fun _ ds => decide (uptoBulkAll ds ≤ 1048576)
def OpenSpec.upto (s : _root_.Go.ChangeSpec) : _root_.Go.OpenSpec := { _root_.Go.OpenSpec.ofChange s with cond := some uptoSmall }

/-- 'plenumlaw12.FaceWants', WHERE WHAT IT READS IS OF BULK AT MOST 1048576: true; the input reads as it did. -/
def faceWantsUptoRow : OpenClaim := { program := "ytpkkaadflbppcaa", sum := "f772b6acd42549585dddec8cd56f52780d511b6809a864b2be219e07f1cdae8b", func := "plenum/plenumlaw12.FaceWants", spec := "faceWants", apart := false, narrowed := true }
def FaceWantsUptoSaid : Prop := faceWantsUptoRow.holds Try.pinned (OpenSpec.upto faceWantsSpec)

/-- 'plenumlaw25.CacheUsed', WHERE WHAT IT READS IS OF BULK AT MOST 1048576: true; the input reads as it did. -/
def cacheUsedUptoRow : OpenClaim := { program := "ytpkkaadflbppcaa", sum := "f772b6acd42549585dddec8cd56f52780d511b6809a864b2be219e07f1cdae8b", func := "plenum/plenumlaw25.CacheUsed", spec := "cacheUsed", unfollowed := true, recurses := true, apart := false, narrowed := true }
def CacheUsedUptoSaid : Prop := cacheUsedUptoRow.holds Try.pinned (OpenSpec.upto cacheUsedSpec)

/-- 'plenumlaw25.CacheRoom', WHERE WHAT IT READS IS OF BULK AT MOST 1048576: true; the input reads as it did. -/
def cacheRoomUptoRow : OpenClaim := { program := "ytpkkaadflbppcaa", sum := "f772b6acd42549585dddec8cd56f52780d511b6809a864b2be219e07f1cdae8b", func := "plenum/plenumlaw25.CacheRoom", spec := "cacheRoom", unfollowed := true, recurses := true, apart := false, narrowed := true }
def CacheRoomUptoSaid : Prop := cacheRoomUptoRow.holds Try.pinned (OpenSpec.upto cacheRoomSpec)

/-- 'plenumlaw25.CacheRuns', WHERE WHAT IT READS IS OF BULK AT MOST 1048576: true; the input reads as it did. -/
def cacheRunsUptoRow : OpenClaim := { program := "ytpkkaadflbppcaa", sum := "f772b6acd42549585dddec8cd56f52780d511b6809a864b2be219e07f1cdae8b", func := "plenum/plenumlaw25.CacheRuns", spec := "cacheRuns", unfollowed := true, recurses := true, apart := false, narrowed := true }
def CacheRunsUptoSaid : Prop := cacheRunsUptoRow.holds Try.pinned (OpenSpec.upto cacheRunsSpec)

/-- 'plenumlaw25.CacheNil', WHERE WHAT IT READS IS OF BULK AT MOST 1048576: true; the input reads as it did. -/
def cacheNilUptoRow : OpenClaim := { program := "ytpkkaadflbppcaa", sum := "f772b6acd42549585dddec8cd56f52780d511b6809a864b2be219e07f1cdae8b", func := "plenum/plenumlaw25.CacheNil", spec := "cacheNil", unfollowed := true, recurses := true, apart := false, narrowed := true }
def CacheNilUptoSaid : Prop := cacheNilUptoRow.holds Try.pinned (OpenSpec.upto cacheNilSpec)

/-- 'plenumlaw25.CacheClears', WHERE WHAT IT READS IS OF BULK AT MOST 1048576: true; the input reads as it did. -/
def cacheClearsUptoRow : OpenClaim := { program := "ytpkkaadflbppcaa", sum := "f772b6acd42549585dddec8cd56f52780d511b6809a864b2be219e07f1cdae8b", func := "plenum/plenumlaw25.CacheClears", spec := "cacheClears", unfollowed := true, recurses := true, apart := false, narrowed := true }
def CacheClearsUptoSaid : Prop := cacheClearsUptoRow.holds Try.pinned (OpenSpec.upto cacheClearsSpec)

end Rows
end Go.Proofs.Ytpkkaadflbppcaa
