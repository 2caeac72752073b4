/- Part of the proofs of this seat's statements: what the functions compute. No condition. -/
import Derived.Test.YtmocggibcniggaaC18R
set_option linter.unusedSimpArgs false
set_option linter.unusedVariables false
namespace Go.Proofs.Ytmocggibcniggaa.Kt
open Go Kw Go.Proofs
theorem find_is {l : List Ls} {v : Vt} {x : Ls} (h : findL l v = some x) : x ∈ l ∧ x.age < 3600 ∧ isV v x = true ∧ x.id = v.i := by
  have : ∀ (l : List Ls) (m : Option Ls), l.foldl (fdS v) m = some x → m = some x ∨ (x ∈ l ∧ x.age < 3600 ∧ isV v x = true ∧ x.id = v.i) := by
    intro l
    induction l with
    | nil => intro m h; exact .inl h
    | cons y l ih =>
      intro m h
      rw [List.foldl_cons] at h
      rcases ih _ h with h | h
      · unfold fdS at h
        split at h
        · rename_i hc
          cases h
          rw [Bool.and_eq_true, Bool.and_eq_true, Bool.and_eq_true] at hc
          exact .inr ⟨List.mem_cons_self .., of_decide_eq_true hc.1, hc.2.1, of_decide_eq_true hc.2.2.1⟩
        · exact .inl h
      · exact .inr ⟨List.mem_cons_of_mem _ h.1, h.2⟩
  rcases this l none h with h | h
  · cases h
  · exact h
theorem find_vert {l : List Ls} {v : Vt} (h : (findL l v).isSome = true) : v ∈ vertsL l := by
  obtain ⟨x, hx⟩ := Option.isSome_iff_exists.1 h
  obtain ⟨h1, h2, h3, h4⟩ := find_is hx
  rw [verts_mem]
  refine ⟨x, h1, h2, ?_⟩
  unfold isV at h3
  rw [Bool.or_eq_true, Bool.and_eq_true, Bool.and_eq_true, Bool.and_eq_true] at h3
  rcases h3 with ⟨a, b, c⟩ | ⟨a, b⟩
  · refine .inl ⟨of_decide_eq_true b, of_decide_eq_true c, ?_⟩
    cases v; simp only [Vt.mk.injEq]; exact ⟨of_decide_eq_true a, h4.symm⟩
  · refine .inr ⟨of_decide_eq_true b, ?_⟩
    cases v; simp only [Vt.mk.injEq]; exact ⟨of_decide_eq_true a, h4.symm⟩
theorem edK1_to {l : List Ls} {v : Vt} {k : Lk} {e : Eg} (h : e ∈ edK1 l v k) : e.t ∈ vertsL l ∧ e.f = v := by
  unfold edK1 at h
  split at h
  · split at h
    · rename_i hc
      rw [Bool.and_eq_true] at hc
      rw [List.mem_singleton.1 h]
      exact ⟨find_vert hc.1, rfl⟩
    · cases h
  · cases h
theorem edK2_to {l : List Ls} {v : Vt} {k : Lk} {e : Eg} (h : e ∈ edK2 l v k) : e.t ∈ vertsL l ∧ e.f = v := by
  unfold edK2 at h
  split at h
  · split at h
    · rename_i hc
      rw [Bool.and_eq_true] at hc
      rw [List.mem_singleton.1 h]
      exact ⟨find_vert hc.1, rfl⟩
    · cases h
  · cases h
theorem edR_to {l : List Ls} {v : Vt} {p : List Int} {r : Int} {e : Eg} (h : e ∈ edR l v p r) : e.t ∈ vertsL l ∧ e.f = v := by
  unfold edR at h
  split at h
  · cases h
  · split at h
    · rename_i hc
      rw [Bool.and_eq_true] at hc
      rw [List.mem_singleton.1 h]
      exact ⟨find_vert hc.1, rfl⟩
    · cases h
theorem edRs_to {l : List Ls} {v : Vt} {rt : List Int} {e : Eg} : ∀ {j : Nat}, e ∈ edRs l v rt j → e.t ∈ vertsL l ∧ e.f = v
  | 0, h => by cases h
  | j + 1, h => by
    unfold edRs at h
    rcases List.mem_append.1 h with h | h
    · exact edRs_to h
    · split at h
      · exact edR_to h
      · cases h
theorem from_to {l : List Ls} {v : Vt} {e : Eg} (h : e ∈ fromL l v) : e.t ∈ vertsL l ∧ e.f = v := by
  unfold fromL at h
  rcases List.mem_append.1 h with h | h
  · obtain ⟨k, _, hk⟩ := List.mem_flatMap.1 h
    rcases List.mem_append.1 hk with hk | hk
    · exact edK1_to hk
    · exact edK2_to hk
  · exact edRs_to h
theorem map_to {l : List Ls} {e : Eg} (h : e ∈ (mapL l).es) : e.t ∈ (mapL l).vs ∧ e.f ∈ (mapL l).vs := by
  obtain ⟨v, hv, he⟩ := List.mem_flatMap.1 h
  obtain ⟨h1, h2⟩ := from_to he
  exact ⟨h1, by rw [h2]; exact hv⟩
theorem map_same (l : List Ls) (root : Vt) : prgTree (mapL l) root = refTree (mapL l) root :=
  prg_ref (fun _ h => verts_kind h) (fun _ h => verts_kind (map_to h).1)
end Go.Proofs.Ytmocggibcniggaa.Kt
