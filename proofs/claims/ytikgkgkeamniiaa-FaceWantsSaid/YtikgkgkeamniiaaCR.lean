/- Part of the proofs of this seat's statements: what the functions compute. No condition. -/
import Derived.Test.YtikgkgkeamniiaaCA
import Derived.Test.YtikgkgkeamniiaaK2
import Derived.Test.YtikgkgkeamniiaaRows
set_option linter.unusedSimpArgs false
set_option linter.unusedVariables false
namespace Go.Proofs.Ytikgkgkeamniiaa.Kt
open Go Kw Go.Proofs
theorem arg_u8 {H : Type} {enc : TypeId × Value → H} {w : World} {base b0 : Nat} {spare : Nat → Bool} {held : Bool} {v : Value} {d : DataW H} {p : List MemPlace} (hv : Value.okWide Try.prog w .any b0 5 v) (h : DataW.Trod enc Try.prog w base spare held 5 v d p) :
    ∃ m : Int, (0 ≤ m ∧ m ≤ 255) ∧ C ⟨[], [], Zof w⟩ w (U8 m) v := by
  obtain ⟨n, rfl, _, _, hw⟩ := ChangeShapes.open_int Try.underlying5 hv h
  exact ⟨n, of_wf_u8 hw, by unfold C CR; exact ⟨rfl, rfl⟩⟩
theorem arg_bool {H : Type} {enc : TypeId × Value → H} {w : World} {base b0 : Nat} {spare : Nat → Bool} {held : Bool} {v : Value} {d : DataW H} {p : List MemPlace} (hv : Value.okWide Try.prog w .any b0 4 v) (h : DataW.Trod enc Try.prog w base spare held 4 v d p) :
    ∃ m : Bool, C ⟨[], [], Zof w⟩ w (Bo m) v := by
  obtain ⟨n, rfl, _, _⟩ := Go.RowKit.open_bool Try.underlying4 hv h
  exact ⟨n, by unfold C CR; exact ⟨rfl, rfl⟩⟩
theorem own : ownKnob Try.prog.godebug = none := by kernel_rfl
theorem laidOut : laidOutB Try.prog = true := by kernel_rfl
end Go.Proofs.Ytikgkgkeamniiaa.Kt
