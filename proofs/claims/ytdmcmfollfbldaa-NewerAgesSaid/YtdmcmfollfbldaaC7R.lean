/- Part of the proofs of this seat's statements: what the functions compute. No condition. -/
import Derived.Test.YtdmcmfollfbldaaC7W
import Derived.Test.YtdmcmfollfbldaaK3
import Derived.Test.YtdmcmfollfbldaaRows
set_option linter.unusedSimpArgs false
set_option linter.unusedVariables false
namespace Go.Proofs.Ytdmcmfollfbldaa.Kt
open Go Kw Go.Proofs
theorem head_of {rv : List RV} (h : Shaped Try.prog 4 23 rv) : ∃ h : Hd, h.ok ∧ AV.agg (rv.map .r) = h.av := by
  obtain ⟨parts, rfl, hl, hf⟩ := sh_struct Try.underlying23 h
  match parts, hl with
  | [p0, p1, p2, p3, p4, p5, p6], _ =>
    have g : ∀ (i : Nat) (f : Field) p, ([p0, p1, p2, p3, p4, p5, p6] : List (List RV))[i]? = some p → f.type = 3 → (∃ q, ([p0, p1, p2, p3, p4, p5, p6] : List (List RV))[i]? = some q ∧ Shaped Try.prog 3 f.type q) → ∃ m, p = [.v (.int .i64 m)] ∧ In m := by
      rintro i f p hp ht ⟨q, hq, hs⟩
      rw [hp] at hq; cases hq
      rw [ht] at hs
      obtain ⟨m, rfl, hw⟩ := sh_int Try.underlying3 hs
      exact ⟨m, rfl, of_wf_i64 hw⟩
    obtain ⟨m0, rfl, w0⟩ := g 0 _ p0 rfl rfl (hf 0 _ rfl)
    obtain ⟨m1, rfl, w1⟩ := g 1 _ p1 rfl rfl (hf 1 _ rfl)
    obtain ⟨m2, rfl, w2⟩ := g 2 _ p2 rfl rfl (hf 2 _ rfl)
    obtain ⟨m3, rfl, w3⟩ := g 3 _ p3 rfl rfl (hf 3 _ rfl)
    obtain ⟨m4, rfl, w4⟩ := g 4 _ p4 rfl rfl (hf 4 _ rfl)
    obtain ⟨m5, rfl, w5⟩ := g 5 _ p5 rfl rfl (hf 5 _ rfl)
    obtain ⟨m6, rfl, w6⟩ := g 6 _ p6 rfl rfl (hf 6 _ rfl)
    exact ⟨⟨m0, m1, m2, m3, m4, m5, m6⟩, ⟨w0, w1, w2, w3, w4, w5, w6⟩, rfl⟩
theorem arg_head {H : Type} {enc : TypeId × Value → H} {w : World} {base b0 : Nat} {spare : Nat → Bool} {held : Bool} {v : Value} {d : DataW H} {p : List MemPlace} (hv : Value.okWide Try.prog w .any b0 23 v) (h : DataW.Trod enc Try.prog w base spare held 23 v d p) :
    ∃ h : Hd, h.ok ∧ C (E0 w) w h.av v := by
  obtain ⟨rv, h1, h2⟩ := arg_struct (k := 4) Try.underlying23 (by kernel_rfl) hv h
  obtain ⟨h, h3, h4⟩ := head_of h1
  exact ⟨h, h3, h4 ▸ h2⟩
theorem arg_u16 {H : Type} {enc : TypeId × Value → H} {w : World} {base b0 : Nat} {spare : Nat → Bool} {held : Bool} {v : Value} {d : DataW H} {p : List MemPlace} (hv : Value.okWide Try.prog w .any b0 28 v) (h : DataW.Trod enc Try.prog w base spare held 28 v d p) :
    ∃ m : Int, (0 ≤ m ∧ m ≤ 65535) ∧ C (E0 w) w (.r (.v (.int .u16 m))) v := by
  obtain ⟨n, rfl, _, _, hw⟩ := ChangeShapes.open_int Try.underlying28 hv h
  exact ⟨n, of_wf_u16 hw, by unfold C CR; exact ⟨rfl, rfl⟩⟩
theorem own : ownKnob Try.prog.godebug = none := by kernel_rfl
theorem laidOut : laidOutB Try.prog = true := by kernel_rfl
end Go.Proofs.Ytdmcmfollfbldaa.Kt
