/- Part of the proofs of this seat's statements: what the functions compute. No condition. -/
import Derived.Test.YtnenbopcoghmaaaC0R
import Derived.Test.YtnenbopcoghmaaaC1N10
import Derived.Test.YtnenbopcoghmaaaK3
import Derived.Test.YtnenbopcoghmaaaRows
set_option linter.unusedSimpArgs false
set_option linter.unusedVariables false
namespace Go.Proofs.Ytnenbopcoghmaaa.Kt
open Go Kw Go.Proofs
set_option maxRecDepth 100000 in
theorem near_of {rv : List RV} (h : Shaped Try.prog 3 47 rv) : ∃ c : Nr, rv = c.row := by
  obtain ⟨parts, rfl, hl, hf⟩ := sh_struct Try.underlying47 h
  match parts, hl with
  | [p0, p1, p2, p3, p4, p5, p6], _ =>
    have g : ∀ (i : Nat) (f : Field) p, ([p0, p1, p2, p3, p4, p5, p6] : List (List RV))[i]? = some p → f.type = 3 → (∃ q, ([p0, p1, p2, p3, p4, p5, p6] : List (List RV))[i]? = some q ∧ Shaped Try.prog 2 f.type q) → ∃ m, p = [.v (.int .i64 m)] := by
      rintro i f p hp ht ⟨q, hq, hs⟩
      rw [hp] at hq; cases hq
      rw [ht] at hs
      obtain ⟨m, rfl, _⟩ := sh_int Try.underlying3 hs
      exact ⟨m, rfl⟩
    obtain ⟨m0, rfl⟩ := g 0 _ p0 rfl rfl (hf 0 _ rfl)
    obtain ⟨m1, rfl⟩ := g 1 _ p1 rfl rfl (hf 1 _ rfl)
    obtain ⟨m2, rfl⟩ := g 2 _ p2 rfl rfl (hf 2 _ rfl)
    obtain ⟨m3, rfl⟩ := g 3 _ p3 rfl rfl (hf 3 _ rfl)
    obtain ⟨m4, rfl⟩ := g 4 _ p4 rfl rfl (hf 4 _ rfl)
    obtain ⟨q5, h5, s5⟩ := hf 5 _ rfl
    cases h5
    obtain ⟨m5, rfl⟩ := sh_bool Try.underlying4 s5
    obtain ⟨m6, rfl⟩ := g 6 _ p6 rfl rfl (hf 6 _ rfl)
    exact ⟨⟨m0, m1, m2, m3, m4, m5, m6⟩, rfl⟩
theorem nears_of : ∀ {L : List (List RV)}, (∀ row ∈ L, Shaped Try.prog 3 47 row) → ∃ l : List Nr, L = l.map Nr.row
  | [], _ => ⟨[], rfl⟩
  | r :: L, h => by
    obtain ⟨c, rfl⟩ := near_of (h r (by simp))
    obtain ⟨l, rfl⟩ := nears_of (L := L) (fun row hr => h row (by simp [hr]))
    exact ⟨c :: l, rfl⟩
set_option maxRecDepth 100000 in
theorem pack_of {rv : List RV} (h : Shaped Try.prog 8 41 rv) : ∃ p : Pk, rv.map AV.r = p.cells := by
  obtain ⟨parts, rfl, hl, hf⟩ := sh_struct Try.underlying41 h
  match parts, hl with
  | [p0, p1, p2, p3, p4, p5, p6, p7, p8, p9, p10, p11], _ =>
    have g : ∀ (i : Nat) (f : Field) p, ([p0, p1, p2, p3, p4, p5, p6, p7, p8, p9, p10, p11] : List (List RV))[i]? = some p → f.type = 3 → (∃ q, ([p0, p1, p2, p3, p4, p5, p6, p7, p8, p9, p10, p11] : List (List RV))[i]? = some q ∧ Shaped Try.prog 7 f.type q) → ∃ m, p = [.v (.int .i64 m)] := by
      rintro i f p hp ht ⟨q, hq, hs⟩
      rw [hp] at hq; cases hq
      rw [ht] at hs
      obtain ⟨m, rfl, _⟩ := sh_int Try.underlying3 hs
      exact ⟨m, rfl⟩
    obtain ⟨m0, rfl⟩ := g 0 _ p0 rfl rfl (hf 0 _ rfl)
    obtain ⟨m1, rfl⟩ := g 1 _ p1 rfl rfl (hf 1 _ rfl)
    obtain ⟨m2, rfl⟩ := g 2 _ p2 rfl rfl (hf 2 _ rfl)
    obtain ⟨m3, rfl⟩ := g 3 _ p3 rfl rfl (hf 3 _ rfl)
    obtain ⟨m4, rfl⟩ := g 4 _ p4 rfl rfl (hf 4 _ rfl)
    obtain ⟨m5, rfl⟩ := g 5 _ p5 rfl rfl (hf 5 _ rfl)
    obtain ⟨m7, rfl⟩ := g 7 _ p7 rfl rfl (hf 7 _ rfl)
    obtain ⟨m8, rfl⟩ := g 8 _ p8 rfl rfl (hf 8 _ rfl)
    obtain ⟨q6, h6, s6⟩ := hf 6 _ rfl
    cases h6
    obtain ⟨L6, rfl, _, hL6⟩ := sh_slice Try.underlying36 s6
    obtain ⟨xs, rfl, _⟩ := ints_of (k := 5) Try.underlying3 hL6
    obtain ⟨q9, h9, s9⟩ := hf 9 _ rfl
    cases h9
    obtain ⟨L9, rfl, _, _⟩ := sh_slice Try.underlying37 s9
    obtain ⟨q10, h10, s10⟩ := hf 10 _ rfl
    cases h10
    obtain ⟨L10, rfl, _, _⟩ := sh_slice Try.underlying38 s10
    obtain ⟨q11, h11, s11⟩ := hf 11 _ rfl
    cases h11
    obtain ⟨L11, rfl, _, _⟩ := sh_slice Try.underlying39 s11
    refine ⟨⟨m0, m1, m2, m3, m4, m5, xs, m7, m8, .rs (Try.prog.cellsOf 106) L9, .rs (Try.prog.cellsOf 108) L10, .rs (Try.prog.cellsOf 112) L11⟩, ?_⟩
    rw [show Try.prog.cellsOf 3 = 1 by kernel_rfl]
    rfl
section
variable {H : Type} {enc : TypeId × Value → H} {w : World} {base b0 : Nat} {spare : Nat → Bool} {held : Bool} {v : Value} {d : DataW H} {p : List MemPlace}
theorem arg_pack (hv : Value.okWide Try.prog w .any b0 41 v) (h : DataW.Trod enc Try.prog w base spare held 41 v d p) : ∃ c : Pk, C (E0 w) w c.av v := by
  obtain ⟨rv, h1, h2⟩ := arg_struct (k := 8) Try.underlying41 (by kernel_rfl) hv h
  obtain ⟨c, hc⟩ := pack_of h1
  rw [hc] at h2
  exact ⟨c, h2⟩
theorem arg_nears (hv : Value.okWide Try.prog w .any b0 42 v) (h : DataW.Trod enc Try.prog w base spare held 42 v d p) : ∃ l : List Nr, C (E0 w) w (rsN l) v := by
  obtain ⟨A, ln, cp, rfl⟩ := Go.WideShapes.okWide_slice Try.underlying42 hv
  obtain ⟨x, ⟨l, rfl⟩, h2⟩ := arg_one (k := 4) (Q := fun x => ∃ l : List Nr, x = .rs 7 (l.map Nr.row)) (by kernel_rfl) rfl h (fun rv hs => by
    obtain ⟨L, rfl, _, hL⟩ := sh_slice Try.underlying42 hs
    obtain ⟨l, rfl⟩ := nears_of hL
    exact ⟨_, rfl, l, by rw [show Try.prog.cellsOf 47 = 7 by kernel_rfl]⟩)
  exact ⟨l, h2⟩
end
end Go.Proofs.Ytnenbopcoghmaaa.Kt
