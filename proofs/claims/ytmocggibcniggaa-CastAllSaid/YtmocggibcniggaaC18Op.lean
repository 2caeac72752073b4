/- Part of the proofs of this seat's statements: what the functions compute. No condition. -/
import Derived.Test.YtmocggibcniggaaC18Aa
import Derived.Test.YtmocggibcniggaaK3
import Derived.Test.YtmocggibcniggaaRows
set_option linter.unusedSimpArgs false
set_option linter.unusedVariables false
namespace Go.Proofs.Ytmocggibcniggaa.Kt
open Go Kw Go.Proofs
set_option maxRecDepth 100000
set_option maxHeartbeats 4000000
theorem own : ownKnob Try.prog.godebug = none := by kernel_rfl
theorem laidOut : laidOutB Try.prog = true := by kernel_rfl
theorem int_of {k : Nat} {rv : List RV} (h : Shaped Try.prog (k + 1) 3 rv) : ∃ m, rv = [.v (.int .i64 m)] := by
  obtain ⟨m, rfl, _⟩ := sh_int Try.underlying3 h
  exact ⟨m, rfl⟩
theorem vert_of {k : Nat} {rv : List RV} (h : Shaped Try.prog (k + 2) 34 rv) : ∃ c : Vt, rv = c.row := by
  obtain ⟨parts, rfl, hl, hf⟩ := sh_struct Try.underlying34 h
  match parts, hl with
  | [p0, p1], _ =>
    have h0 : ∃ m, p0 = [.v (.int .i64 m)] := by
      obtain ⟨q, hq, hs⟩ := hf 0 _ rfl
      cases hq
      exact int_of hs
    have h1 : ∃ m, p1 = [.v (.int .i64 m)] := by
      obtain ⟨q, hq, hs⟩ := hf 1 _ rfl
      cases hq
      exact int_of hs
    obtain ⟨m0, rfl⟩ := h0
    obtain ⟨m1, rfl⟩ := h1
    exact ⟨⟨m0, m1⟩, rfl⟩
theorem link_of {k : Nat} {rv : List RV} (h : Shaped Try.prog (k + 2) 54 rv) : ∃ c : Lk, rv = c.row := by
  obtain ⟨parts, rfl, hl, hf⟩ := sh_struct Try.underlying54 h
  match parts, hl with
  | [p0, p1, p2, p3], _ =>
    have h0 : ∃ m, p0 = [.v (.int .i64 m)] := by
      obtain ⟨q, hq, hs⟩ := hf 0 _ rfl
      cases hq
      exact int_of hs
    have h1 : ∃ m, p1 = [.v (.int .i64 m)] := by
      obtain ⟨q, hq, hs⟩ := hf 1 _ rfl
      cases hq
      exact int_of hs
    have h2 : ∃ m, p2 = [.v (.int .i64 m)] := by
      obtain ⟨q, hq, hs⟩ := hf 2 _ rfl
      cases hq
      exact int_of hs
    have h3 : ∃ m, p3 = [.v (.int .i64 m)] := by
      obtain ⟨q, hq, hs⟩ := hf 3 _ rfl
      cases hq
      exact int_of hs
    obtain ⟨m0, rfl⟩ := h0
    obtain ⟨m1, rfl⟩ := h1
    obtain ⟨m2, rfl⟩ := h2
    obtain ⟨m3, rfl⟩ := h3
    exact ⟨⟨m0, m1, m2, m3⟩, rfl⟩
theorem num_of {k : Nat} {rv : List RV} (h : Shaped Try.prog (k + 2) 3 rv) : ∃ c : Int, rv = nRow c := int_of h
theorem verts_of {k : Nat} : ∀ {L : List (List RV)}, (∀ row ∈ L, Shaped Try.prog (k + 2) 34 row) → ∃ l : List Vt, L = l.map Vt.row
  | [], _ => ⟨[], rfl⟩
  | r :: L, h => by
    obtain ⟨c, rfl⟩ := vert_of (h r (by simp))
    obtain ⟨l, rfl⟩ := verts_of (L := L) (fun row hr => h row (by simp [hr]))
    exact ⟨c :: l, rfl⟩
theorem links_of {k : Nat} : ∀ {L : List (List RV)}, (∀ row ∈ L, Shaped Try.prog (k + 2) 54 row) → ∃ l : List Lk, L = l.map Lk.row
  | [], _ => ⟨[], rfl⟩
  | r :: L, h => by
    obtain ⟨c, rfl⟩ := link_of (h r (by simp))
    obtain ⟨l, rfl⟩ := links_of (L := L) (fun row hr => h row (by simp [hr]))
    exact ⟨c :: l, rfl⟩
theorem nums_of {k : Nat} : ∀ {L : List (List RV)}, (∀ row ∈ L, Shaped Try.prog (k + 2) 3 row) → ∃ l : List Int, L = l.map nRow
  | [], _ => ⟨[], rfl⟩
  | r :: L, h => by
    obtain ⟨c, rfl⟩ := num_of (h r (by simp))
    obtain ⟨l, rfl⟩ := nums_of (L := L) (fun row hr => h row (by simp [hr]))
    exact ⟨c :: l, rfl⟩
theorem slV_of {k : Nat} {rv : List RV} (h : Shaped Try.prog (k + 3) 25 rv) : ∃ l : List Vt, rv = [.rs 2 (l.map Vt.row)] := by
  obtain ⟨L, rfl, _, hL⟩ := sh_slice Try.underlying25 h
  obtain ⟨l, rfl⟩ := verts_of (k := k) hL
  exact ⟨l, by rw [show Try.prog.cellsOf 34 = 2 by kernel_rfl]⟩
theorem slK_of {k : Nat} {rv : List RV} (h : Shaped Try.prog (k + 3) 49 rv) : ∃ l : List Lk, rv = [.rs 4 (l.map Lk.row)] := by
  obtain ⟨L, rfl, _, hL⟩ := sh_slice Try.underlying49 h
  obtain ⟨l, rfl⟩ := links_of (k := k) hL
  exact ⟨l, by rw [show Try.prog.cellsOf 54 = 4 by kernel_rfl]⟩
theorem slN_of {k : Nat} {rv : List RV} (h : Shaped Try.prog (k + 3) 29 rv) : ∃ l : List Int, rv = [.rs 1 (l.map nRow)] := by
  obtain ⟨L, rfl, _, hL⟩ := sh_slice Try.underlying29 h
  obtain ⟨l, rfl⟩ := nums_of (k := k) hL
  exact ⟨l, by rw [show Try.prog.cellsOf 3 = 1 by kernel_rfl]⟩
structure Hd7 where
  a : Int
  b : Int
  c : Int
  d : Int
  e : Int
  f : Int
  g : Int
abbrev Hd7.row (h : Hd7) : List RV := [.v (.int .i64 h.a), .v (.int .i64 h.b), .v (.int .i64 h.c), .v (.int .i64 h.d), .v (.int .i64 h.e), .v (.int .i64 h.f), .v (.int .i64 h.g)]
theorem head_of {k : Nat} {rv : List RV} (h : Shaped Try.prog (k + 3) 48 rv) : ∃ c : Hd7, rv = c.row := by
  obtain ⟨parts, rfl, hl, hf⟩ := sh_struct Try.underlying48 h
  match parts, hl with
  | [p0, p1, p2, p3, p4, p5, p6], _ =>
    have h0 : ∃ m, p0 = [.v (.int .i64 m)] := by
      obtain ⟨q, hq, hs⟩ := hf 0 _ rfl
      cases hq
      exact int_of hs
    have h1 : ∃ m, p1 = [.v (.int .i64 m)] := by
      obtain ⟨q, hq, hs⟩ := hf 1 _ rfl
      cases hq
      exact int_of hs
    have h2 : ∃ m, p2 = [.v (.int .i64 m)] := by
      obtain ⟨q, hq, hs⟩ := hf 2 _ rfl
      cases hq
      exact int_of hs
    have h3 : ∃ m, p3 = [.v (.int .i64 m)] := by
      obtain ⟨q, hq, hs⟩ := hf 3 _ rfl
      cases hq
      exact int_of hs
    have h4 : ∃ m, p4 = [.v (.int .i64 m)] := by
      obtain ⟨q, hq, hs⟩ := hf 4 _ rfl
      cases hq
      exact int_of hs
    have h5 : ∃ m, p5 = [.v (.int .i64 m)] := by
      obtain ⟨q, hq, hs⟩ := hf 5 _ rfl
      cases hq
      exact int_of hs
    have h6 : ∃ m, p6 = [.v (.int .i64 m)] := by
      obtain ⟨q, hq, hs⟩ := hf 6 _ rfl
      cases hq
      exact int_of hs
    obtain ⟨m0, rfl⟩ := h0
    obtain ⟨m1, rfl⟩ := h1
    obtain ⟨m2, rfl⟩ := h2
    obtain ⟨m3, rfl⟩ := h3
    obtain ⟨m4, rfl⟩ := h4
    obtain ⟨m5, rfl⟩ := h5
    obtain ⟨m6, rfl⟩ := h6
    exact ⟨⟨m0, m1, m2, m3, m4, m5, m6⟩, rfl⟩
theorem lsa_of {k : Nat} {rv : List RV} (h : Shaped Try.prog (k + 4) 51 rv) : ∃ c : Ls, rv = c.rowR := by
  obtain ⟨parts, rfl, hl, hf⟩ := sh_struct Try.underlying51 h
  match parts, hl with
  | [p0, p1, p2, p3, p4, p5], _ =>
    have h0 : ∃ c : Hd7, p0 = c.row := by
      obtain ⟨q, hq, hs⟩ := hf 0 _ rfl
      cases hq
      exact head_of (k := k) hs
    have h1 : ∃ m, p1 = [.v (.int .i64 m)] := by
      obtain ⟨q, hq, hs⟩ := hf 1 _ rfl
      cases hq
      exact int_of hs
    have h2 : ∃ l : List Lk, p2 = [.rs 4 (l.map Lk.row)] := by
      obtain ⟨q, hq, hs⟩ := hf 2 _ rfl
      cases hq
      exact slK_of (k := k) hs
    have h3 : ∃ m, p3 = [.v (.int .i64 m)] := by
      obtain ⟨q, hq, hs⟩ := hf 3 _ rfl
      cases hq
      exact int_of hs
    have h4 : ∃ l : List Int, p4 = [.rs 1 (l.map nRow)] := by
      obtain ⟨q, hq, hs⟩ := hf 4 _ rfl
      cases hq
      exact slN_of (k := k) hs
    have h5 : ∃ l : List Vt, p5 = [.rs 2 (l.map Vt.row)] := by
      obtain ⟨q, hq, hs⟩ := hf 5 _ rfl
      cases hq
      exact slV_of (k := k) hs
    obtain ⟨m0, rfl⟩ := h0
    obtain ⟨m1, rfl⟩ := h1
    obtain ⟨m2, rfl⟩ := h2
    obtain ⟨m3, rfl⟩ := h3
    obtain ⟨m4, rfl⟩ := h4
    obtain ⟨m5, rfl⟩ := h5
    exact ⟨⟨m0.a, m0.b, m0.c, m0.d, m0.e, m0.f, m0.g, m1, m2, m3, m4, m5⟩, rfl⟩
theorem lsas_of {k : Nat} : ∀ {L : List (List RV)}, (∀ row ∈ L, Shaped Try.prog (k + 4) 51 row) → ∃ l : List Ls, L = l.map Ls.rowR
  | [], _ => ⟨[], rfl⟩
  | r :: L, h => by
    obtain ⟨c, rfl⟩ := lsa_of (h r (by simp))
    obtain ⟨l, rfl⟩ := lsas_of (L := L) (fun row hr => h row (by simp [hr]))
    exact ⟨c :: l, rfl⟩
theorem slL_of {k : Nat} {rv : List RV} (h : Shaped Try.prog (k + 5) 22 rv) : ∃ l : List Ls, rv = [.rs 12 (l.map Ls.rowR)] := by
  obtain ⟨L, rfl, _, hL⟩ := sh_slice Try.underlying22 h
  obtain ⟨l, rfl⟩ := lsas_of (k := k) hL
  exact ⟨l, by rw [show Try.prog.cellsOf 51 = 12 by kernel_rfl]⟩
section
variable {H : Type} {enc : TypeId × Value → H} {w : World} {base b0 : Nat} {spare : Nat → Bool} {held : Bool} {v : Value} {d : DataW H} {p : List MemPlace}
theorem arg_lsas (hv : Value.okWide Try.prog w .any b0 22 v) (h : DataW.Trod enc Try.prog w base spare held 22 v d p) : ∃ l : List Ls, C (E0 w) w (rsL l) v := by
  obtain ⟨A, ln, cp, rfl⟩ := Go.WideShapes.okWide_slice Try.underlying22 hv
  obtain ⟨x, ⟨l, rfl⟩, h2⟩ := arg_one (k := 6) (Q := fun x => ∃ l : List Ls, x = .rs 12 (l.map Ls.rowR)) (by kernel_rfl) rfl h (fun rv hs => by
    obtain ⟨l, rfl⟩ := slL_of (k := 1) hs
    exact ⟨_, rfl, l, rfl⟩)
  exact ⟨l, h2⟩
theorem arg_verts (hv : Value.okWide Try.prog w .any b0 25 v) (h : DataW.Trod enc Try.prog w base spare held 25 v d p) : ∃ l : List Vt, C (E0 w) w (rsV l) v := by
  obtain ⟨A, ln, cp, rfl⟩ := Go.WideShapes.okWide_slice Try.underlying25 hv
  obtain ⟨x, ⟨l, rfl⟩, h2⟩ := arg_one (k := 6) (Q := fun x => ∃ l : List Vt, x = .rs 2 (l.map Vt.row)) (by kernel_rfl) rfl h (fun rv hs => by
    obtain ⟨l, rfl⟩ := slV_of (k := 3) hs
    exact ⟨_, rfl, l, rfl⟩)
  exact ⟨l, h2⟩
theorem arg_vert (hv : Value.okWide Try.prog w .any b0 34 v) (h : DataW.Trod enc Try.prog w base spare held 34 v d p) : ∃ x : Vt, C (E0 w) w x.av v := by
  obtain ⟨rv, h1, h2⟩ := arg_struct (k := 6) Try.underlying34 (by kernel_rfl) hv h
  obtain ⟨x, rfl⟩ := vert_of (k := 4) h1
  exact ⟨x, h2⟩
end
end Go.Proofs.Ytmocggibcniggaa.Kt
