/- Part of the proofs of this seat's statements: what the functions compute. No condition. -/
import Derived.Test.YtmocggibcniggaaC23I
set_option linter.unusedSimpArgs false
set_option linter.unusedVariables false
namespace Go.Proofs.Ytmocggibcniggaa.Kt
open Go Kw Go.Proofs
set_option maxHeartbeats 4000000
set_option maxRecDepth 100000
theorem fold_is {v : Vt} : ∀ (l : List Ls) (m : Option Ls), m.isSome = true → (l.foldl (fdS v) m).isSome = true
  | [], m, h => h
  | y :: l, m, h => by
    rw [List.foldl_cons]
    refine fold_is l _ ?_
    unfold fdS
    split
    · rfl
    · exact h
theorem fold_has {v : Vt} {x : Ls} (ha : x.age < 3600) (hk : isV v x = true) (hi : x.id = v.i) : ∀ (l : List Ls) (m : Option Ls), x ∈ l → (l.foldl (fdS v) m).isSome = true
  | y :: l, m, h => by
    rw [List.foldl_cons]
    rcases List.mem_cons.1 h with rfl | h
    · refine fold_is l _ ?_
      unfold fdS
      rw [decide_eq_true ha, hk, decide_eq_true hi]
      cases m with
      | none => rfl
      | some z => simp only [Option.isSome_some, Bool.not_true, Bool.false_or, Bool.true_and]; split <;> rfl
    · exact fold_has ha hk hi l _ h
theorem few_set {l : List Ls} (h : Few l) {w : Nat} {x : Ls} (hx : l[w]? = some x) : Few (l.set w x.wild) := by
  have key : ∀ y ∈ l.set w x.wild, y = x.wild ∨ y ∈ l := fun y hy => by
    rcases List.mem_or_eq_of_mem_set hy with h | h
    · exact .inr h
    · exact .inl h
  have hxl := List.mem_of_getElem? hx
  refine ⟨by rw [List.length_set]; exact h.len, fun y hy => ?_, fun y hy => ?_⟩
  · rcases key y hy with rfl | hy
    · exact h.lk x hxl
    · exact h.lk y hy
  · rcases key y hy with rfl | hy
    · exact h.rt x hxl
    · exact h.rt y hy
/-- The router that wants all is told so by the map. -/
theorem wild_in {n : Int} {l : List Ls} (hl : GrOk n l) {k : Nat} (hk : (k : Int) = 1 + n % 6) {w : Nat} (hw : w < k) : ∃ x, l[w]? = some x ∧ (mapL (l.set w x.wild)).vs ≠ [] ∧ ∀ v ∈ (mapL (l.set w x.wild)).vs, v = ⟨1, (w : Int) + 1⟩ → (w : Int) + 1 ∈ (mapL (l.set w x.wild)).wl := by
  obtain ⟨k', gs, ns, h1, rfl, h2, h3, h4⟩ := hl.ex
  have hkk : k' = k := by omega
  subst hkk
  have hg := h2.len
  obtain ⟨x, hx⟩ : ∃ x, gs[w]? = some x := ⟨_, List.getElem?_eq_getElem (by omega)⟩
  have hx' : (gs ++ ns)[w]? = some x := by rw [List.getElem?_append_left (by omega)]; exact hx
  obtain ⟨e1, _, _⟩ := h2.el w x hx
  have hin : x.wild ∈ (gs ++ ns).set w x.wild := List.mem_of_getElem? (List.getElem?_set_self (by rw [List.length_append]; omega))
  have hv1 : isV ⟨1, (w : Int) + 1⟩ x.wild = true := by
    rw [e1]
    unfold isV Ls.wild
    simp
  have hs := fold_has (v := ⟨1, (w : Int) + 1⟩) (x := x.wild) (by rw [e1]; exact (by decide : (0 : Int) < 3600)) hv1 (by rw [e1]; rfl) ((gs ++ ns).set w x.wild) none hin
  refine ⟨x, hx', fun h => ?_, fun v hv hve => ?_⟩
  · have hvm : (⟨1, (w : Int) + 1⟩ : Vt) ∈ (mapL ((gs ++ ns).set w x.wild)).vs := find_vert hs
    rw [h] at hvm
    cases hvm
  obtain ⟨y, hy⟩ := Option.isSome_iff_exists.1 hs
  have hyf : findL ((gs ++ ns).set w x.wild) v = some y := by rw [hve]; exact hy
  have hyx : y.fl = 8 := by
    obtain ⟨q1, q2, q3, q4⟩ := find_is hyf
    rw [hve] at q3 q4
    rcases List.mem_iff_getElem?.1 q1 with ⟨j, hj⟩
    by_cases hjw : j = w
    · subst hjw
      rw [List.getElem?_set_self (by rw [List.length_append]; omega)] at hj
      rw [← Option.some.inj hj]; rfl
    · rw [List.getElem?_set_ne (fun h => hjw h.symm)] at hj
      by_cases hjg : j < gs.length
      · rw [List.getElem?_append_left hjg] at hj
        obtain ⟨e2, _, _⟩ := h2.el j y hj
        rw [e2] at q4
        have q4 : ((j : Int) + 1) = (w : Int) + 1 := q4
        omega
      · rw [List.getElem?_append_right (by omega)] at hj
        obtain ⟨e2, _⟩ := h3 y (List.mem_of_getElem? hj)
        rw [e2] at q3
        unfold isV at q3
        simp at q3
  have := wl_mem (w := w + 1) hv (by rw [hve]; rfl) hyf hyx
  simpa using this
end Go.Proofs.Ytmocggibcniggaa.Kt
