/-
  No cell of these rows narrows 'for every input' (looked for: loops, veiled, ifaces, maps, wideKeys, modest, calm, conditions, laid).
  DERIVED. THE GIVEN ROWS OF THIS SEAT. 12 by the template 'for every input the law returns true; each argument reads behind the call as it read before'; 0 by the template 'total and deterministic' (their statements: YtnenbopcoghmaaaTotals.lean).
  GIVEN WITH THE SEED: the statements are not yours to turn. If you find one false, say at which input.
  Laid BY PROGRAM, IN A SANDBOX (cutbox-rows.mjs): the forced cells as the released guide's own fill.sh prints them over the translation 0c2f3a3e33b5aaa6… (all of the seat's roots in one cut). By AI agents, Wed Nov 11 2026. No macro, syntax, notation, axiom, sorry.
-/
import Derived.Test.YtnenbopcoghmaaaChecked
import GoSem.Claim
import GoSem.ClaimJoined
import GoSem.ClaimMapViews
import Derived.JoinedTies
import Derived.KernelRfl
namespace Go.Proofs.Ytnenbopcoghmaaa
/- THE CELL 'sum', in the pinned program and in every row, IS THE sha256 OF THE DUMP (.gsa) THAT YtnenbopcoghmaaaProg.lean LOADS. Nothing in Lean hashes anything: it is a label: what it is worth is what the hold of that sum in a sandbox is worth. -/
noncomputable def Try.pinned : Pinned := { name := "ytnenbopcoghmaaa", sum := "0c2f3a3e33b5aaa6e6e0bb84f11e4aee63f7c382a9513fc1c53b27762296e890", checked := Try.checked }
namespace Rows
def none {H : Type} : Left H := { results := [], args := [] }

/-- 'plenumlaw10.ElectAll': WHATEVER THE INPUT: true; the input reads as it did. -/
def electAllSpec : ChangeSpec := { name := "electAll", fn := fun _ => fun
  | [d1, d2] => { results := [.lit (.bool true)], args := [d1, d2] }
  | _ => none }
def electAllRow : OpenClaim := { program := "ytnenbopcoghmaaa", sum := "0c2f3a3e33b5aaa6e6e0bb84f11e4aee63f7c382a9513fc1c53b27762296e890", func := "plenum/plenumlaw10.ElectAll", spec := "electAll", unfollowed := true, recurses := true, apart := false }
def ElectAllSaid : Prop := electAllRow.holds Try.pinned (OpenSpec.ofChange electAllSpec)

/-- ITS FALSE NEIGHBOUR: 'it returns false'. Refute it at one input. -/
def electAllWrong : ChangeSpec := { name := "electAll", fn := fun _ => fun
  | [d1, d2] => { results := [.lit (.bool false)], args := [d1, d2] }
  | _ => none }
def ElectAllWrongFalsely : Prop := electAllRow.holds Try.pinned (OpenSpec.ofChange electAllWrong)

/-- 'plenumlaw10.ElectOrder': WHATEVER THE INPUT: true; the input reads as it did. -/
def electOrderSpec : ChangeSpec := { name := "electOrder", fn := fun _ => fun
  | [d1, d2] => { results := [.lit (.bool true)], args := [d1, d2] }
  | _ => none }
def electOrderRow : OpenClaim := { program := "ytnenbopcoghmaaa", sum := "0c2f3a3e33b5aaa6e6e0bb84f11e4aee63f7c382a9513fc1c53b27762296e890", func := "plenum/plenumlaw10.ElectOrder", spec := "electOrder", unfollowed := true, recurses := true, apart := false }
def ElectOrderSaid : Prop := electOrderRow.holds Try.pinned (OpenSpec.ofChange electOrderSpec)

/-- ITS FALSE NEIGHBOUR: 'it returns false'. Refute it at one input. -/
def electOrderWrong : ChangeSpec := { name := "electOrder", fn := fun _ => fun
  | [d1, d2] => { results := [.lit (.bool false)], args := [d1, d2] }
  | _ => none }
def ElectOrderWrongFalsely : Prop := electOrderRow.holds Try.pinned (OpenSpec.ofChange electOrderWrong)

/-- 'plenumlaw10.ElectSettles': WHATEVER THE INPUT: true; the input reads as it did. -/
def electSettlesSpec : ChangeSpec := { name := "electSettles", fn := fun _ => fun
  | [d1, d2] => { results := [.lit (.bool true)], args := [d1, d2] }
  | _ => none }
def electSettlesRow : OpenClaim := { program := "ytnenbopcoghmaaa", sum := "0c2f3a3e33b5aaa6e6e0bb84f11e4aee63f7c382a9513fc1c53b27762296e890", func := "plenum/plenumlaw10.ElectSettles", spec := "electSettles", unfollowed := true, recurses := true, apart := false }
def ElectSettlesSaid : Prop := electSettlesRow.holds Try.pinned (OpenSpec.ofChange electSettlesSpec)

/-- ITS FALSE NEIGHBOUR: 'it returns false'. Refute it at one input. -/
def electSettlesWrong : ChangeSpec := { name := "electSettles", fn := fun _ => fun
  | [d1, d2] => { results := [.lit (.bool false)], args := [d1, d2] }
  | _ => none }
def ElectSettlesWrongFalsely : Prop := electSettlesRow.holds Try.pinned (OpenSpec.ofChange electSettlesWrong)

/-- 'plenumlaw10.ElectStays': WHATEVER THE INPUT: true; the input reads as it did. -/
def electStaysSpec : ChangeSpec := { name := "electStays", fn := fun _ => fun
  | [d1, d2] => { results := [.lit (.bool true)], args := [d1, d2] }
  | _ => none }
def electStaysRow : OpenClaim := { program := "ytnenbopcoghmaaa", sum := "0c2f3a3e33b5aaa6e6e0bb84f11e4aee63f7c382a9513fc1c53b27762296e890", func := "plenum/plenumlaw10.ElectStays", spec := "electStays", unfollowed := true, recurses := true, apart := false }
def ElectStaysSaid : Prop := electStaysRow.holds Try.pinned (OpenSpec.ofChange electStaysSpec)

/-- ITS FALSE NEIGHBOUR: 'it returns false'. Refute it at one input. -/
def electStaysWrong : ChangeSpec := { name := "electStays", fn := fun _ => fun
  | [d1, d2] => { results := [.lit (.bool false)], args := [d1, d2] }
  | _ => none }
def ElectStaysWrongFalsely : Prop := electStaysRow.holds Try.pinned (OpenSpec.ofChange electStaysWrong)

/-- 'plenumlaw10.ElectNone': WHATEVER THE INPUT: true; the input reads as it did. -/
def electNoneSpec : ChangeSpec := { name := "electNone", fn := fun _ => fun
  | [d1, d2] => { results := [.lit (.bool true)], args := [d1, d2] }
  | _ => none }
def electNoneRow : OpenClaim := { program := "ytnenbopcoghmaaa", sum := "0c2f3a3e33b5aaa6e6e0bb84f11e4aee63f7c382a9513fc1c53b27762296e890", func := "plenum/plenumlaw10.ElectNone", spec := "electNone", unfollowed := true, recurses := true, apart := false }
def ElectNoneSaid : Prop := electNoneRow.holds Try.pinned (OpenSpec.ofChange electNoneSpec)

/-- ITS FALSE NEIGHBOUR: 'it returns false'. Refute it at one input. -/
def electNoneWrong : ChangeSpec := { name := "electNone", fn := fun _ => fun
  | [d1, d2] => { results := [.lit (.bool false)], args := [d1, d2] }
  | _ => none }
def ElectNoneWrongFalsely : Prop := electNoneRow.holds Try.pinned (OpenSpec.ofChange electNoneWrong)

/-- 'plenumlaw10.ElectTwo': WHATEVER THE INPUT: true; the input reads as it did. -/
def electTwoSpec : ChangeSpec := { name := "electTwo", fn := fun _ => fun
  | [d1, d2, d3, d4] => { results := [.lit (.bool true)], args := [d1, d2, d3, d4] }
  | _ => none }
def electTwoRow : OpenClaim := { program := "ytnenbopcoghmaaa", sum := "0c2f3a3e33b5aaa6e6e0bb84f11e4aee63f7c382a9513fc1c53b27762296e890", func := "plenum/plenumlaw10.ElectTwo", spec := "electTwo", unfollowed := true, recurses := true, apart := false }
def ElectTwoSaid : Prop := electTwoRow.holds Try.pinned (OpenSpec.ofChange electTwoSpec)

/-- ITS FALSE NEIGHBOUR: 'it returns false'. Refute it at one input. -/
def electTwoWrong : ChangeSpec := { name := "electTwo", fn := fun _ => fun
  | [d1, d2, d3, d4] => { results := [.lit (.bool false)], args := [d1, d2, d3, d4] }
  | _ => none }
def ElectTwoWrongFalsely : Prop := electTwoRow.holds Try.pinned (OpenSpec.ofChange electTwoWrong)

/-- 'plenumlaw11.NearStays': WHATEVER THE INPUT: true; the input reads as it did. -/
def nearStaysSpec : ChangeSpec := { name := "nearStays", fn := fun _ => fun
  | [d] => { results := [.lit (.bool true)], args := [d] }
  | _ => none }
def nearStaysRow : OpenClaim := { program := "ytnenbopcoghmaaa", sum := "0c2f3a3e33b5aaa6e6e0bb84f11e4aee63f7c382a9513fc1c53b27762296e890", func := "plenum/plenumlaw11.NearStays", spec := "nearStays", inPlace := ["slices.overlaps[plenum/api.Near]"], unfollowed := true, recurses := true, apart := false }
def NearStaysSaid : Prop := nearStaysRow.holds Try.pinned (OpenSpec.ofChange nearStaysSpec)

/-- ITS FALSE NEIGHBOUR: 'it returns false'. Refute it at one input. -/
def nearStaysWrong : ChangeSpec := { name := "nearStays", fn := fun _ => fun
  | [d] => { results := [.lit (.bool false)], args := [d] }
  | _ => none }
def NearStaysWrongFalsely : Prop := nearStaysRow.holds Try.pinned (OpenSpec.ofChange nearStaysWrong)

/-- 'plenumlaw11.NearMany': WHATEVER THE INPUT: true; the input reads as it did. -/
def nearManySpec : ChangeSpec := { name := "nearMany", fn := fun _ => fun
  | [d1, d2] => { results := [.lit (.bool true)], args := [d1, d2] }
  | _ => none }
def nearManyRow : OpenClaim := { program := "ytnenbopcoghmaaa", sum := "0c2f3a3e33b5aaa6e6e0bb84f11e4aee63f7c382a9513fc1c53b27762296e890", func := "plenum/plenumlaw11.NearMany", spec := "nearMany", inPlace := ["slices.overlaps[plenum/api.Near]"], unfollowed := true, recurses := true, apart := false }
def NearManySaid : Prop := nearManyRow.holds Try.pinned (OpenSpec.ofChange nearManySpec)

/-- ITS FALSE NEIGHBOUR: 'it returns false'. Refute it at one input. -/
def nearManyWrong : ChangeSpec := { name := "nearMany", fn := fun _ => fun
  | [d1, d2] => { results := [.lit (.bool false)], args := [d1, d2] }
  | _ => none }
def NearManyWrongFalsely : Prop := nearManyRow.holds Try.pinned (OpenSpec.ofChange nearManyWrong)

/-- 'plenumlaw11.NearAll': WHATEVER THE INPUT: true; the input reads as it did. -/
def nearAllSpec : ChangeSpec := { name := "nearAll", fn := fun _ => fun
  | [d1, d2, d3, d4] => { results := [.lit (.bool true)], args := [d1, d2, d3, d4] }
  | _ => none }
def nearAllRow : OpenClaim := { program := "ytnenbopcoghmaaa", sum := "0c2f3a3e33b5aaa6e6e0bb84f11e4aee63f7c382a9513fc1c53b27762296e890", func := "plenum/plenumlaw11.NearAll", spec := "nearAll", inPlace := ["slices.overlaps[plenum/api.Near]"], unfollowed := true, recurses := true, apart := false }
def NearAllSaid : Prop := nearAllRow.holds Try.pinned (OpenSpec.ofChange nearAllSpec)

/-- ITS FALSE NEIGHBOUR: 'it returns false'. Refute it at one input. -/
def nearAllWrong : ChangeSpec := { name := "nearAll", fn := fun _ => fun
  | [d1, d2, d3, d4] => { results := [.lit (.bool false)], args := [d1, d2, d3, d4] }
  | _ => none }
def NearAllWrongFalsely : Prop := nearAllRow.holds Try.pinned (OpenSpec.ofChange nearAllWrong)

/-- 'plenumlaw12.FaceAlone': WHATEVER THE INPUT: true; the input reads as it did. -/
def faceAloneSpec : ChangeSpec := { name := "faceAlone", fn := fun _ => fun
  | [d1, d2, d3] => { results := [.lit (.bool true)], args := [d1, d2, d3] }
  | _ => none }
def faceAloneRow : OpenClaim := { program := "ytnenbopcoghmaaa", sum := "0c2f3a3e33b5aaa6e6e0bb84f11e4aee63f7c382a9513fc1c53b27762296e890", func := "plenum/plenumlaw12.FaceAlone", spec := "faceAlone", inPlace := ["slices.overlaps[plenum/api.Near]"], unfollowed := true, recurses := true, apart := false }
def FaceAloneSaid : Prop := faceAloneRow.holds Try.pinned (OpenSpec.ofChange faceAloneSpec)

/-- ITS FALSE NEIGHBOUR: 'it returns false'. Refute it at one input. -/
def faceAloneWrong : ChangeSpec := { name := "faceAlone", fn := fun _ => fun
  | [d1, d2, d3] => { results := [.lit (.bool false)], args := [d1, d2, d3] }
  | _ => none }
def FaceAloneWrongFalsely : Prop := faceAloneRow.holds Try.pinned (OpenSpec.ofChange faceAloneWrong)

/-- 'plenumlaw12.FaceSees': WHATEVER THE INPUT: true; the input reads as it did. -/
def faceSeesSpec : ChangeSpec := { name := "faceSees", fn := fun _ => fun
  | [d1, d2, d3] => { results := [.lit (.bool true)], args := [d1, d2, d3] }
  | _ => none }
def faceSeesRow : OpenClaim := { program := "ytnenbopcoghmaaa", sum := "0c2f3a3e33b5aaa6e6e0bb84f11e4aee63f7c382a9513fc1c53b27762296e890", func := "plenum/plenumlaw12.FaceSees", spec := "faceSees", inPlace := ["slices.overlaps[plenum/api.Near]"], unfollowed := true, recurses := true, apart := false }
def FaceSeesSaid : Prop := faceSeesRow.holds Try.pinned (OpenSpec.ofChange faceSeesSpec)

/-- ITS FALSE NEIGHBOUR: 'it returns false'. Refute it at one input. -/
def faceSeesWrong : ChangeSpec := { name := "faceSees", fn := fun _ => fun
  | [d1, d2, d3] => { results := [.lit (.bool false)], args := [d1, d2, d3] }
  | _ => none }
def FaceSeesWrongFalsely : Prop := faceSeesRow.holds Try.pinned (OpenSpec.ofChange faceSeesWrong)

/-- 'plenumlaw12.FaceBackups': WHATEVER THE INPUT: true; the input reads as it did. -/
def faceBackupsSpec : ChangeSpec := { name := "faceBackups", fn := fun _ => fun
  | [d] => { results := [.lit (.bool true)], args := [d] }
  | _ => none }
def faceBackupsRow : OpenClaim := { program := "ytnenbopcoghmaaa", sum := "0c2f3a3e33b5aaa6e6e0bb84f11e4aee63f7c382a9513fc1c53b27762296e890", func := "plenum/plenumlaw12.FaceBackups", spec := "faceBackups", inPlace := ["slices.overlaps[plenum/api.Near]"], unfollowed := true, recurses := true, apart := false }
def FaceBackupsSaid : Prop := faceBackupsRow.holds Try.pinned (OpenSpec.ofChange faceBackupsSpec)

/-- ITS FALSE NEIGHBOUR: 'it returns false'. Refute it at one input. -/
def faceBackupsWrong : ChangeSpec := { name := "faceBackups", fn := fun _ => fun
  | [d] => { results := [.lit (.bool false)], args := [d] }
  | _ => none }
def FaceBackupsWrongFalsely : Prop := faceBackupsRow.holds Try.pinned (OpenSpec.ofChange faceBackupsWrong)

/- THE SECOND FORM. 'bulk': how many values and letters a reading holds, each counted each time it is reached (what is shared counts as often as it is met; a slice's spare places count too). A statement '..UptoSaid' is the law's where the arguments, and the package variables that the reading takes, are together of bulk at most 1048576: NARROWER than '..Said'. Prove '..Said' where nothing that the law and all that it calls make is longer than what came in: it says more and counts as full. Else prove '..UptoSaid'. A law counts once. -/
mutual
def uptoBulk {H : Type} : DataW H → Nat
  | .lit (.string bytes) => bytes.length + 1
  | .lit _ => 1
  | .nil => 1
  | .ptr d => uptoBulk d + 1
  | .slice elems spare => uptoBulkAll elems + uptoBulkAll spare + 1
  | .agg parts => uptoBulkAll parts + 1
  | .iface _ d => uptoBulk d + 1
  | .map entries => uptoBulkEntries entries + 1
  | .held _ => 1
def uptoBulkAll {H : Type} : List (DataW H) → Nat
  | [] => 0
  | d :: r => uptoBulk d + uptoBulkAll r
def uptoBulkEntries {H : Type} : List (Lit × DataW H) → Nat
  | [] => 0
  | x :: r => uptoBulkEntry x + uptoBulkEntries r
def uptoBulkEntry {H : Type} : Lit × DataW H → Nat
  | (.string bytes, d) => bytes.length + uptoBulk d + 1
  | (_, d) => uptoBulk d + 1
 end
def uptoSmall : (H : Type) → List (DataW H) → Bool := fun _ ds => decide (uptoBulkAll ds ≤ 1048576)
def OpenSpec.upto (s : _root_.Go.ChangeSpec) : _root_.Go.OpenSpec := { _root_.Go.OpenSpec.ofChange s with cond := some uptoSmall }

/-- 'plenumlaw10.ElectAll', WHERE WHAT IT READS IS OF BULK AT MOST 1048576: true; the input reads as it did. -/
def electAllUptoRow : OpenClaim := { program := "ytnenbopcoghmaaa", sum := "0c2f3a3e33b5aaa6e6e0bb84f11e4aee63f7c382a9513fc1c53b27762296e890", func := "plenum/plenumlaw10.ElectAll", spec := "electAll", unfollowed := true, recurses := true, apart := false, narrowed := true }
def ElectAllUptoSaid : Prop := electAllUptoRow.holds Try.pinned (OpenSpec.upto electAllSpec)

/-- 'plenumlaw10.ElectOrder', WHERE WHAT IT READS IS OF BULK AT MOST 1048576: true; the input reads as it did. -/
def electOrderUptoRow : OpenClaim := { program := "ytnenbopcoghmaaa", sum := "0c2f3a3e33b5aaa6e6e0bb84f11e4aee63f7c382a9513fc1c53b27762296e890", func := "plenum/plenumlaw10.ElectOrder", spec := "electOrder", unfollowed := true, recurses := true, apart := false, narrowed := true }
def ElectOrderUptoSaid : Prop := electOrderUptoRow.holds Try.pinned (OpenSpec.upto electOrderSpec)

/-- 'plenumlaw10.ElectSettles', WHERE WHAT IT READS IS OF BULK AT MOST 1048576: true; the input reads as it did. -/
def electSettlesUptoRow : OpenClaim := { program := "ytnenbopcoghmaaa", sum := "0c2f3a3e33b5aaa6e6e0bb84f11e4aee63f7c382a9513fc1c53b27762296e890", func := "plenum/plenumlaw10.ElectSettles", spec := "electSettles", unfollowed := true, recurses := true, apart := false, narrowed := true }
def ElectSettlesUptoSaid : Prop := electSettlesUptoRow.holds Try.pinned (OpenSpec.upto electSettlesSpec)

/-- 'plenumlaw10.ElectStays', WHERE WHAT IT READS IS OF BULK AT MOST 1048576: true; the input reads as it did. -/
def electStaysUptoRow : OpenClaim := { program := "ytnenbopcoghmaaa", sum := "0c2f3a3e33b5aaa6e6e0bb84f11e4aee63f7c382a9513fc1c53b27762296e890", func := "plenum/plenumlaw10.ElectStays", spec := "electStays", unfollowed := true, recurses := true, apart := false, narrowed := true }
def ElectStaysUptoSaid : Prop := electStaysUptoRow.holds Try.pinned (OpenSpec.upto electStaysSpec)

/-- 'plenumlaw10.ElectNone', WHERE WHAT IT READS IS OF BULK AT MOST 1048576: true; the input reads as it did. -/
def electNoneUptoRow : OpenClaim := { program := "ytnenbopcoghmaaa", sum := "0c2f3a3e33b5aaa6e6e0bb84f11e4aee63f7c382a9513fc1c53b27762296e890", func := "plenum/plenumlaw10.ElectNone", spec := "electNone", unfollowed := true, recurses := true, apart := false, narrowed := true }
def ElectNoneUptoSaid : Prop := electNoneUptoRow.holds Try.pinned (OpenSpec.upto electNoneSpec)

/-- 'plenumlaw10.ElectTwo', WHERE WHAT IT READS IS OF BULK AT MOST 1048576: true; the input reads as it did. -/
def electTwoUptoRow : OpenClaim := { program := "ytnenbopcoghmaaa", sum := "0c2f3a3e33b5aaa6e6e0bb84f11e4aee63f7c382a9513fc1c53b27762296e890", func := "plenum/plenumlaw10.ElectTwo", spec := "electTwo", unfollowed := true, recurses := true, apart := false, narrowed := true }
def ElectTwoUptoSaid : Prop := electTwoUptoRow.holds Try.pinned (OpenSpec.upto electTwoSpec)

/-- 'plenumlaw11.NearStays', WHERE WHAT IT READS IS OF BULK AT MOST 1048576: true; the input reads as it did. -/
def nearStaysUptoRow : OpenClaim := { program := "ytnenbopcoghmaaa", sum := "0c2f3a3e33b5aaa6e6e0bb84f11e4aee63f7c382a9513fc1c53b27762296e890", func := "plenum/plenumlaw11.NearStays", spec := "nearStays", inPlace := ["slices.overlaps[plenum/api.Near]"], unfollowed := true, recurses := true, apart := false, narrowed := true }
def NearStaysUptoSaid : Prop := nearStaysUptoRow.holds Try.pinned (OpenSpec.upto nearStaysSpec)

/-- 'plenumlaw11.NearMany', WHERE WHAT IT READS IS OF BULK AT MOST 1048576: true; the input reads as it did. -/
def nearManyUptoRow : OpenClaim := { program := "ytnenbopcoghmaaa", sum := "0c2f3a3e33b5aaa6e6e0bb84f11e4aee63f7c382a9513fc1c53b27762296e890", func := "plenum/plenumlaw11.NearMany", spec := "nearMany", inPlace := ["slices.overlaps[plenum/api.Near]"], unfollowed := true, recurses := true, apart := false, narrowed := true }
def NearManyUptoSaid : Prop := nearManyUptoRow.holds Try.pinned (OpenSpec.upto nearManySpec)

/-- 'plenumlaw11.NearAll', WHERE WHAT IT READS IS OF BULK AT MOST 1048576: true; the input reads as it did. -/
def nearAllUptoRow : OpenClaim := { program := "ytnenbopcoghmaaa", sum := "0c2f3a3e33b5aaa6e6e0bb84f11e4aee63f7c382a9513fc1c53b27762296e890", func := "plenum/plenumlaw11.NearAll", spec := "nearAll", inPlace := ["slices.overlaps[plenum/api.Near]"], unfollowed := true, recurses := true, apart := false, narrowed := true }
def NearAllUptoSaid : Prop := nearAllUptoRow.holds Try.pinned (OpenSpec.upto nearAllSpec)

/-- 'plenumlaw12.FaceAlone', WHERE WHAT IT READS IS OF BULK AT MOST 1048576: true; the input reads as it did. -/
def faceAloneUptoRow : OpenClaim := { program := "ytnenbopcoghmaaa", sum := "0c2f3a3e33b5aaa6e6e0bb84f11e4aee63f7c382a9513fc1c53b27762296e890", func := "plenum/plenumlaw12.FaceAlone", spec := "faceAlone", inPlace := ["slices.overlaps[plenum/api.Near]"], unfollowed := true, recurses := true, apart := false, narrowed := true }
def FaceAloneUptoSaid : Prop := faceAloneUptoRow.holds Try.pinned (OpenSpec.upto faceAloneSpec)

/-- 'plenumlaw12.FaceSees', WHERE WHAT IT READS IS OF BULK AT MOST 1048576: true; the input reads as it did. -/
def faceSeesUptoRow : OpenClaim := { program := "ytnenbopcoghmaaa", sum := "0c2f3a3e33b5aaa6e6e0bb84f11e4aee63f7c382a9513fc1c53b27762296e890", func := "plenum/plenumlaw12.FaceSees", spec := "faceSees", inPlace := ["slices.overlaps[plenum/api.Near]"], unfollowed := true, recurses := true, apart := false, narrowed := true }
def FaceSeesUptoSaid : Prop := faceSeesUptoRow.holds Try.pinned (OpenSpec.upto faceSeesSpec)

/-- 'plenumlaw12.FaceBackups', WHERE WHAT IT READS IS OF BULK AT MOST 1048576: true; the input reads as it did. -/
def faceBackupsUptoRow : OpenClaim := { program := "ytnenbopcoghmaaa", sum := "0c2f3a3e33b5aaa6e6e0bb84f11e4aee63f7c382a9513fc1c53b27762296e890", func := "plenum/plenumlaw12.FaceBackups", spec := "faceBackups", inPlace := ["slices.overlaps[plenum/api.Near]"], unfollowed := true, recurses := true, apart := false, narrowed := true }
def FaceBackupsUptoSaid : Prop := faceBackupsUptoRow.holds Try.pinned (OpenSpec.upto faceBackupsSpec)

end Rows
end Go.Proofs.Ytnenbopcoghmaaa
