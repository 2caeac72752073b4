/- Part of the proofs of this seat's statements: what the functions compute. No condition. -/
import Derived.Test.YtnenbopcoghmaaaC0W2
import Derived.Test.YtnenbopcoghmaaaK3
import Derived.Test.YtnenbopcoghmaaaRows
set_option linter.unusedSimpArgs false
set_option linter.unusedVariables false
namespace Go.Proofs.Ytnenbopcoghmaaa.Kt
open Go Kw Go.Proofs
set_option maxRecDepth 100000 in
theorem cand_of {rv : List RV} (h : Shaped Try.prog 3 23 rv) : ∃ c : Cd, rv = c.row := by
  obtain ⟨parts, rfl, hl, hf⟩ := sh_struct Try.underlying23 h
  match parts, hl with
  | [p0, p1, p2, p3, p4], _ =>
    have g : ∀ (i : Nat) (f : Field) p, ([p0, p1, p2, p3, p4] : List (List RV))[i]? = some p → f.type = 3 → (∃ q, ([p0, p1, p2, p3, p4] : List (List RV))[i]? = some q ∧ Shaped Try.prog 2 f.type q) → ∃ m, p = [.v (.int .i64 m)] := by
      rintro i f p hp ht ⟨q, hq, hs⟩
      rw [hp] at hq; cases hq
      rw [ht] at hs
      obtain ⟨m, rfl, _⟩ := sh_int Try.underlying3 hs
      exact ⟨m, rfl⟩
    obtain ⟨m0, rfl⟩ := g 0 _ p0 rfl rfl (hf 0 _ rfl)
    obtain ⟨m1, rfl⟩ := g 1 _ p1 rfl rfl (hf 1 _ rfl)
    obtain ⟨m2, rfl⟩ := g 2 _ p2 rfl rfl (hf 2 _ rfl)
    obtain ⟨m3, rfl⟩ := g 3 _ p3 rfl rfl (hf 3 _ rfl)
    obtain ⟨m4, rfl⟩ := g 4 _ p4 rfl rfl (hf 4 _ rfl)
    exact ⟨⟨m0, m1, m2, m3, m4⟩, rfl⟩
theorem cands_of : ∀ {L : List (List RV)}, (∀ row ∈ L, Shaped Try.prog 3 23 row) → ∃ l : List Cd, L = l.map Cd.row
  | [], _ => ⟨[], rfl⟩
  | r :: L, h => by
    obtain ⟨c, rfl⟩ := cand_of (h r (by simp))
    obtain ⟨l, rfl⟩ := cands_of (L := L) (fun row hr => h row (by simp [hr]))
    exact ⟨c :: l, rfl⟩
section
variable {H : Type} {enc : TypeId × Value → H} {w : World} {base b0 : Nat} {spare : Nat → Bool} {held : Bool} {v : Value} {d : DataW H} {p : List MemPlace}
theorem arg_cand (hv : Value.okWide Try.prog w .any b0 23 v) (h : DataW.Trod enc Try.prog w base spare held 23 v d p) : ∃ c : Cd, C (E0 w) w c.av v := by
  obtain ⟨rv, h1, h2⟩ := arg_struct (k := 3) Try.underlying23 (by kernel_rfl) hv h
  obtain ⟨c, rfl⟩ := cand_of h1
  exact ⟨c, h2⟩
theorem arg_cands (hv : Value.okWide Try.prog w .any b0 24 v) (h : DataW.Trod enc Try.prog w base spare held 24 v d p) : ∃ l : List Cd, C (E0 w) w (rsC l) v := by
  obtain ⟨A, ln, cp, rfl⟩ := Go.WideShapes.okWide_slice Try.underlying24 hv
  obtain ⟨x, ⟨l, rfl⟩, h2⟩ := arg_one (k := 4) (Q := fun x => ∃ l : List Cd, x = .rs 5 (l.map Cd.row)) (by kernel_rfl) rfl h (fun rv hs => by
    obtain ⟨L, rfl, _, hL⟩ := sh_slice Try.underlying24 hs
    obtain ⟨l, rfl⟩ := cands_of hL
    exact ⟨_, rfl, l, by rw [show Try.prog.cellsOf 23 = 5 by kernel_rfl]⟩)
  exact ⟨l, h2⟩
end
theorem own : ownKnob Try.prog.godebug = none := by kernel_rfl
theorem laidOut : laidOutB Try.prog = true := by kernel_rfl
end Go.Proofs.Ytnenbopcoghmaaa.Kt
