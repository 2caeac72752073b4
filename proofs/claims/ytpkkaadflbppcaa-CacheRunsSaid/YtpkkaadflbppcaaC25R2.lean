/- Part of the proofs of this seat's statements: what the functions compute. No condition. -/
import Derived.Test.YtpkkaadflbppcaaC25R
import Derived.Test.YtpkkaadflbppcaaC25Ec
set_option linter.unusedSimpArgs false
set_option linter.unusedVariables false
namespace Go.Proofs.Ytpkkaadflbppcaa.Kt
open Go Kw Go.Proofs
set_option maxRecDepth 100000 in
theorem act_of {k : Nat} {rv : List RV} (h : Shaped Try.prog (k + 5) 50 rv) : ∃ c : Ac, rv = c.row := by
  obtain ⟨parts, rfl, hl, hf⟩ := sh_struct Try.underlying50 h
  match parts, hl with
  | [p0, p1], _ =>
    have h0 : ∃ m, p0 = [.v (.int .i64 m)] := by
      obtain ⟨q, hq, hs⟩ := hf 0 _ rfl
      cases hq
      obtain ⟨m, rfl, _⟩ := sh_int Try.underlying3 hs
      exact ⟨m, rfl⟩
    have h1 : ∃ e : En, p1 = e.rowv := by
      obtain ⟨q, hq, hs⟩ := hf 1 _ rfl
      cases hq
      exact ent_of (k := k) hs
    obtain ⟨m, rfl⟩ := h0
    obtain ⟨e, rfl⟩ := h1
    exact ⟨⟨m, e⟩, rfl⟩
theorem acts_of {k : Nat} : ∀ {L : List (List RV)}, (∀ row ∈ L, Shaped Try.prog (k + 5) 50 row) → ∃ l : List Ac, L = l.map Ac.row
  | [], _ => ⟨[], rfl⟩
  | r :: L, h => by
    obtain ⟨c, rfl⟩ := act_of (h r (by simp))
    obtain ⟨l, rfl⟩ := acts_of (L := L) (fun row hr => h row (by simp [hr]))
    exact ⟨c :: l, rfl⟩
section
variable {H : Type} {enc : TypeId × Value → H} {w : World} {base b0 : Nat} {spare : Nat → Bool} {held : Bool} {v : Value} {d : DataW H} {p : List MemPlace}
theorem arg_acts (hv : Value.okWide Try.prog w .any b0 45 v) (h : DataW.Trod enc Try.prog w base spare held 45 v d p) : ∃ l : List Ac, C (E0 w) w (rsAc l) v := by
  obtain ⟨A, ln, cp, rfl⟩ := Go.WideShapes.okWide_slice Try.underlying45 hv
  obtain ⟨x, ⟨l, rfl⟩, h2⟩ := arg_one (k := 6) (Q := fun x => ∃ l : List Ac, x = .rs 6 (l.map Ac.row)) (by kernel_rfl) rfl h (fun rv hs => by
    obtain ⟨L, rfl, _, hL⟩ := sh_slice Try.underlying45 hs
    obtain ⟨l, rfl⟩ := acts_of (k := 0) hL
    exact ⟨_, rfl, l, by rw [show Try.prog.cellsOf 50 = 6 by kernel_rfl]⟩)
  exact ⟨l, h2⟩
end
end Go.Proofs.Ytpkkaadflbppcaa.Kt
