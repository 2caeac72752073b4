/-
  No cell of these rows narrows 'for every input' (looked for: loops, veiled, ifaces, maps, wideKeys, modest, calm, conditions, laid).
  DERIVED. THE GIVEN ROWS OF THIS SEAT. 4 by the template 'for every input the law returns true; each argument reads behind the call as it read before'; 0 by the template 'total and deterministic' (their statements: YtdmcmfollfbldaaTotals.lean).
  GIVEN WITH THE SEED: the statements are not yours to turn. If you find one false, say at which input.
  Laid BY PROGRAM, IN A SANDBOX (cutbox-rows.mjs): the forced cells as the released guide's own fill.sh prints them over the translation 6a667f611fe2b6bc… (all of the seat's roots in one cut). By AI agents, Wed Nov 11 2026. No macro, syntax, notation, axiom, sorry.
-/
import Derived.Test.YtdmcmfollfbldaaChecked
import GoSem.Claim
import GoSem.ClaimJoined
import GoSem.ClaimMapViews
import Derived.JoinedTies
import Derived.KernelRfl
namespace Go.Proofs.Ytdmcmfollfbldaa
/- THE CELL 'sum', in the pinned program and in every row, IS THE sha256 OF THE DUMP (.gsa) THAT YtdmcmfollfbldaaProg.lean LOADS. Nothing in Lean hashes anything: it is a label: what it is worth is what the hold of that sum in a sandbox is worth. -/
noncomputable def Try.pinned : Pinned := { name := "ytdmcmfollfbldaa", sum := "6a667f611fe2b6bc2104c461807da8a2d5839184d410df98ff9bc5223a163dfb", checked := Try.checked }
namespace Rows
def none {H : Type} : Left H := { results := [], args := [] }

/-- 'plenumlaw7.NewerAll': WHATEVER THE INPUT: true; the input reads as it did. -/
def newerAllSpec : ChangeSpec := { name := "newerAll", fn := fun _ => fun
  | [d1, d2] => { results := [.lit (.bool true)], args := [d1, d2] }
  | _ => none }
def newerAllRow : OpenClaim := { program := "ytdmcmfollfbldaa", sum := "6a667f611fe2b6bc2104c461807da8a2d5839184d410df98ff9bc5223a163dfb", func := "plenum/plenumlaw7.NewerAll", spec := "newerAll", apart := false }
def NewerAllSaid : Prop := newerAllRow.holds Try.pinned (OpenSpec.ofChange newerAllSpec)

/-- ITS FALSE NEIGHBOUR: 'it returns false'. Refute it at one input. -/
def newerAllWrong : ChangeSpec := { name := "newerAll", fn := fun _ => fun
  | [d1, d2] => { results := [.lit (.bool false)], args := [d1, d2] }
  | _ => none }
def NewerAllWrongFalsely : Prop := newerAllRow.holds Try.pinned (OpenSpec.ofChange newerAllWrong)

/-- 'plenumlaw7.NewerOnly': WHATEVER THE INPUT: true; the input reads as it did. -/
def newerOnlySpec : ChangeSpec := { name := "newerOnly", fn := fun _ => fun
  | [d1, d2, d3] => { results := [.lit (.bool true)], args := [d1, d2, d3] }
  | _ => none }
def newerOnlyRow : OpenClaim := { program := "ytdmcmfollfbldaa", sum := "6a667f611fe2b6bc2104c461807da8a2d5839184d410df98ff9bc5223a163dfb", func := "plenum/plenumlaw7.NewerOnly", spec := "newerOnly", apart := false }
def NewerOnlySaid : Prop := newerOnlyRow.holds Try.pinned (OpenSpec.ofChange newerOnlySpec)

/-- ITS FALSE NEIGHBOUR: 'it returns false'. Refute it at one input. -/
def newerOnlyWrong : ChangeSpec := { name := "newerOnly", fn := fun _ => fun
  | [d1, d2, d3] => { results := [.lit (.bool false)], args := [d1, d2, d3] }
  | _ => none }
def NewerOnlyWrongFalsely : Prop := newerOnlyRow.holds Try.pinned (OpenSpec.ofChange newerOnlyWrong)

/-- 'plenumlaw7.NewerRows': WHATEVER THE INPUT: true; the input reads as it did. -/
def newerRowsSpec : ChangeSpec := { name := "newerRows", fn := fun _ => fun
  | [d1, d2, d3] => { results := [.lit (.bool true)], args := [d1, d2, d3] }
  | _ => none }
def newerRowsRow : OpenClaim := { program := "ytdmcmfollfbldaa", sum := "6a667f611fe2b6bc2104c461807da8a2d5839184d410df98ff9bc5223a163dfb", func := "plenum/plenumlaw7.NewerRows", spec := "newerRows", apart := false }
def NewerRowsSaid : Prop := newerRowsRow.holds Try.pinned (OpenSpec.ofChange newerRowsSpec)

/-- ITS FALSE NEIGHBOUR: 'it returns false'. Refute it at one input. -/
def newerRowsWrong : ChangeSpec := { name := "newerRows", fn := fun _ => fun
  | [d1, d2, d3] => { results := [.lit (.bool false)], args := [d1, d2, d3] }
  | _ => none }
def NewerRowsWrongFalsely : Prop := newerRowsRow.holds Try.pinned (OpenSpec.ofChange newerRowsWrong)

/-- 'plenumlaw7.NewerAges': WHATEVER THE INPUT: true; the input reads as it did. -/
def newerAgesSpec : ChangeSpec := { name := "newerAges", fn := fun _ => fun
  | [d1, d2, d3] => { results := [.lit (.bool true)], args := [d1, d2, d3] }
  | _ => none }
def newerAgesRow : OpenClaim := { program := "ytdmcmfollfbldaa", sum := "6a667f611fe2b6bc2104c461807da8a2d5839184d410df98ff9bc5223a163dfb", func := "plenum/plenumlaw7.NewerAges", spec := "newerAges", apart := false }
def NewerAgesSaid : Prop := newerAgesRow.holds Try.pinned (OpenSpec.ofChange newerAgesSpec)

/-- ITS FALSE NEIGHBOUR: 'it returns false'. Refute it at one input. -/
def newerAgesWrong : ChangeSpec := { name := "newerAges", fn := fun _ => fun
  | [d1, d2, d3] => { results := [.lit (.bool false)], args := [d1, d2, d3] }
  | _ => none }
def NewerAgesWrongFalsely : Prop := newerAgesRow.holds Try.pinned (OpenSpec.ofChange newerAgesWrong)

/- THE SECOND FORM. 'bulk': how many values and letters a reading holds, each counted each time it is reached (what is shared counts as often as it is met; a slice's spare places count too). A statement '..UptoSaid' is the law's where the arguments, and the package variables that the reading takes, are together of bulk at most 1048576: NARROWER than '..Said'. Prove '..Said' where nothing that the law and all that it calls make is longer than what came in: it says more and counts as full. Else prove '..UptoSaid'. A law counts once. -/
mutual
def uptoBulk {H : Type} : DataW H → Nat
  | .lit (.string bytes) => bytes.length + 1
  | .lit _ => 1
  | .nil => 1
  | .ptr d => uptoBulk d + 1
  | .slice elems spare => uptoBulkAll elems + uptoBulkAll spare + 1
  | .agg parts => uptoBulkAll parts + 1
  | .iface _ d => uptoBulk d + 1
  | .map entries => uptoBulkEntries entries + 1
  | .held _ => 1
def uptoBulkAll {H : Type} : List (DataW H) → Nat
  | [] => 0
  | d :: r => uptoBulk d + uptoBulkAll r
def uptoBulkEntries {H : Type} : List (Lit × DataW H) → Nat
  | [] => 0
  | x :: r => uptoBulkEntry x + uptoBulkEntries r
def uptoBulkEntry {H : Type} : Lit × DataW H → Nat
  | (.string bytes, d) => bytes.length + uptoBulk d + 1
  | (_, d) => uptoBulk d + 1
 end
def uptoSmall : (H : Type) → List (DataW H) → Bool := fun _ ds => decide (uptoBulkAll ds ≤ 1048576)
def OpenSpec.upto (s : _root_.Go.ChangeSpec) : _root_.Go.OpenSpec := { _root_.Go.OpenSpec.ofChange s with cond := some uptoSmall }

/-- 'plenumlaw7.NewerAll', WHERE WHAT IT READS IS OF BULK AT MOST 1048576: true; the input reads as it did. -/
def newerAllUptoRow : OpenClaim := { program := "ytdmcmfollfbldaa", sum := "6a667f611fe2b6bc2104c461807da8a2d5839184d410df98ff9bc5223a163dfb", func := "plenum/plenumlaw7.NewerAll", spec := "newerAll", apart := false, narrowed := true }
def NewerAllUptoSaid : Prop := newerAllUptoRow.holds Try.pinned (OpenSpec.upto newerAllSpec)

/-- 'plenumlaw7.NewerOnly', WHERE WHAT IT READS IS OF BULK AT MOST 1048576: true; the input reads as it did. -/
def newerOnlyUptoRow : OpenClaim := { program := "ytdmcmfollfbldaa", sum := "6a667f611fe2b6bc2104c461807da8a2d5839184d410df98ff9bc5223a163dfb", func := "plenum/plenumlaw7.NewerOnly", spec := "newerOnly", apart := false, narrowed := true }
def NewerOnlyUptoSaid : Prop := newerOnlyUptoRow.holds Try.pinned (OpenSpec.upto newerOnlySpec)

/-- 'plenumlaw7.NewerRows', WHERE WHAT IT READS IS OF BULK AT MOST 1048576: true; the input reads as it did. -/
def newerRowsUptoRow : OpenClaim := { program := "ytdmcmfollfbldaa", sum := "6a667f611fe2b6bc2104c461807da8a2d5839184d410df98ff9bc5223a163dfb", func := "plenum/plenumlaw7.NewerRows", spec := "newerRows", apart := false, narrowed := true }
def NewerRowsUptoSaid : Prop := newerRowsUptoRow.holds Try.pinned (OpenSpec.upto newerRowsSpec)

/-- 'plenumlaw7.NewerAges', WHERE WHAT IT READS IS OF BULK AT MOST 1048576: true; the input reads as it did. -/
def newerAgesUptoRow : OpenClaim := { program := "ytdmcmfollfbldaa", sum := "6a667f611fe2b6bc2104c461807da8a2d5839184d410df98ff9bc5223a163dfb", func := "plenum/plenumlaw7.NewerAges", spec := "newerAges", apart := false, narrowed := true }
def NewerAgesUptoSaid : Prop := newerAgesUptoRow.holds Try.pinned (OpenSpec.upto newerAgesSpec)

end Rows
end Go.Proofs.Ytdmcmfollfbldaa
