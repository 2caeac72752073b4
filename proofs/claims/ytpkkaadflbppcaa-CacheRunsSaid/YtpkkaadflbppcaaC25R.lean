/- Part of the proofs of this seat's statements: what the functions compute. No condition. -/
import Derived.Test.YtpkkaadflbppcaaC25H
import Derived.Test.YtpkkaadflbppcaaK3
import Derived.Test.YtpkkaadflbppcaaRows
set_option linter.unusedSimpArgs false
set_option linter.unusedVariables false
namespace Go.Proofs.Ytpkkaadflbppcaa.Kt
open Go Kw Go.Proofs
theorem own : ownKnob Try.prog.godebug = none := by kernel_rfl
theorem laidOut : laidOutB Try.prog = true := by kernel_rfl
set_option maxRecDepth 100000 in
theorem out_of {k : Nat} {rv : List RV} (h : Shaped Try.prog (k + 2) 57 rv) : ∃ c : Ou, rv = c.row := by
  obtain ⟨parts, rfl, hl, hf⟩ := sh_struct Try.underlying57 h
  match parts, hl with
  | [p0, p1], _ =>
    have g : ∀ (i : Nat) (f : Field) p, ([p0, p1] : List (List RV))[i]? = some p → f.type = 3 → (∃ q, ([p0, p1] : List (List RV))[i]? = some q ∧ Shaped Try.prog (k + 1) f.type q) → ∃ m, p = [.v (.int .i64 m)] := by
      rintro i f p hp ht ⟨q, hq, hs⟩
      rw [hp] at hq; cases hq
      rw [ht] at hs
      obtain ⟨m, rfl, _⟩ := sh_int Try.underlying3 hs
      exact ⟨m, rfl⟩
    obtain ⟨m0, rfl⟩ := g 0 _ p0 rfl rfl (hf 0 _ rfl)
    obtain ⟨m1, rfl⟩ := g 1 _ p1 rfl rfl (hf 1 _ rfl)
    exact ⟨⟨m0, m1⟩, rfl⟩
theorem outs_of {k : Nat} : ∀ {L : List (List RV)}, (∀ row ∈ L, Shaped Try.prog (k + 2) 57 row) → ∃ l : List Ou, L = l.map Ou.row
  | [], _ => ⟨[], rfl⟩
  | r :: L, h => by
    obtain ⟨c, rfl⟩ := out_of (h r (by simp))
    obtain ⟨l, rfl⟩ := outs_of (L := L) (fun row hr => h row (by simp [hr]))
    exact ⟨c :: l, rfl⟩
abbrev En.rowv (c : En) : List RV := [.v (.int .i64 c.p), .v (.int .i64 c.b), .v (.int .i64 c.g), .v (.int .i64 c.u), rO c.o]
set_option maxRecDepth 100000 in
theorem ent_of {k : Nat} {rv : List RV} (h : Shaped Try.prog (k + 4) 37 rv) : ∃ c : En, rv = c.rowv := by
  obtain ⟨parts, rfl, hl, hf⟩ := sh_struct Try.underlying37 h
  match parts, hl with
  | [p0, p1, p2, p3, p4], _ =>
    have g : ∀ (i : Nat) (f : Field) p, ([p0, p1, p2, p3, p4] : List (List RV))[i]? = some p → f.type = 3 → (∃ q, ([p0, p1, p2, p3, p4] : List (List RV))[i]? = some q ∧ Shaped Try.prog (k + 3) f.type q) → ∃ m, p = [.v (.int .i64 m)] := by
      rintro i f p hp ht ⟨q, hq, hs⟩
      rw [hp] at hq; cases hq
      rw [ht] at hs
      obtain ⟨m, rfl, _⟩ := sh_int Try.underlying3 hs
      exact ⟨m, rfl⟩
    have go : ∃ l : List Ou, p4 = [rO l] := by
      obtain ⟨q, hq, hs⟩ := hf 4 _ rfl
      cases hq
      obtain ⟨L, rfl, _, hL⟩ := sh_slice Try.underlying35 hs
      obtain ⟨l, rfl⟩ := outs_of hL
      exact ⟨l, by rw [show Try.prog.cellsOf 57 = 2 by kernel_rfl]⟩
    obtain ⟨m0, rfl⟩ := g 0 _ p0 rfl rfl (hf 0 _ rfl)
    obtain ⟨m1, rfl⟩ := g 1 _ p1 rfl rfl (hf 1 _ rfl)
    obtain ⟨m2, rfl⟩ := g 2 _ p2 rfl rfl (hf 2 _ rfl)
    obtain ⟨m3, rfl⟩ := g 3 _ p3 rfl rfl (hf 3 _ rfl)
    obtain ⟨l, rfl⟩ := go
    exact ⟨⟨m0, m1, m2, m3, l⟩, rfl⟩
section
variable {H : Type} {enc : TypeId × Value → H} {w : World} {base b0 : Nat} {spare : Nat → Bool} {held : Bool} {v : Value} {d : DataW H} {p : List MemPlace}
theorem arg_ent (hv : Value.okWide Try.prog w .any b0 37 v) (h : DataW.Trod enc Try.prog w base spare held 37 v d p) : ∃ c : En, C (E0 w) w (c.avx (.r (rO c.o))) v := by
  obtain ⟨rv, hs, hc⟩ := arg_struct (k := 4) Try.underlying37 (by kernel_rfl) hv h
  obtain ⟨c, rfl⟩ := ent_of (k := 0) hs
  exact ⟨c, hc⟩
end
end Go.Proofs.Ytpkkaadflbppcaa.Kt
