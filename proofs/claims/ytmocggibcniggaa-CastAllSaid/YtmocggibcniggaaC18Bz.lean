/- Part of the proofs of this seat's statements: what the functions compute. No condition. -/
import Derived.Test.YtmocggibcniggaaC18Aa
import Derived.Test.YtmocggibcniggaaC18X
import Derived.Test.YtmocggibcniggaaC18Ba
set_option linter.unusedSimpArgs false
set_option linter.unusedVariables false
namespace Go.Proofs.Ytmocggibcniggaa.Kt
open Go Kw Go.Proofs
/-! ### what an edge costs -/
theorem edRs_c {l : List Ls} {v : Vt} {rt : List Int} {e : Eg} : ∀ {j : Nat}, e ∈ edRs l v rt j → e.c = 0
  | 0, h => by cases h
  | j + 1, h => by
    unfold edRs at h
    rcases List.mem_append.1 h with h | h
    · exact edRs_c h
    · split at h
      · unfold edR at h
        split at h
        · cases h
        · split at h
          · rw [List.mem_singleton.1 h]
          · cases h
      · cases h
theorem from_cost {l : List Ls} {v : Vt} {e : Eg} (h : e ∈ fromL l v) : e.c = 0 ∨ ∃ x ∈ l, ∃ k ∈ x.lk, e.c = k.c := by
  unfold fromL at h
  rcases List.mem_append.1 h with h | h
  · right
    obtain ⟨k, hk, he⟩ := List.mem_flatMap.1 h
    cases hx : findL l v with
    | none => rw [hx] at hk; cases hk
    | some x =>
      rw [hx] at hk
      refine ⟨x, find_mem hx, k, hk, ?_⟩
      rcases List.mem_append.1 he with he | he
      · unfold edK1 at he
        split at he
        · split at he
          · rw [List.mem_singleton.1 he]
          · cases he
        · cases he
      · unfold edK2 at he
        split at he
        · split at he
          · rw [List.mem_singleton.1 he]
          · cases he
        · cases he
  · exact .inl (edRs_c h)
theorem GrOk.link {n : Int} {l : List Ls} (h : GrOk n l) : ∀ x ∈ l, ∀ k ∈ x.lk, LkOk k := by
  obtain ⟨k, gs, ns, h1, rfl, h2, h3, h4⟩ := h.ex
  intro x hx q hq
  rcases List.mem_append.1 hx with hx | hx
  · obtain ⟨j, hj⟩ := List.mem_iff_getElem?.1 hx
    exact (h2.el j x hj).2.1 q hq
  · rw [(h3 x hx).1] at hq; cases hq
theorem GrOk.cost {n : Int} {l : List Ls} (h : GrOk n l) : ∀ e ∈ (mapL l).es, 0 ≤ e.c ∧ e.c ≤ 10 := fun e he => by
  obtain ⟨v, _, hv⟩ := List.mem_flatMap.1 he
  rcases from_cost hv with h0 | ⟨x, hx, k, hk, h0⟩
  · omega
  · have := h.link x hx k hk
    rw [h0]; exact ⟨this.1, this.2.1⟩
/-- The tree of a map, from one of its vertices. -/
structure Tr (l : List Ls) (v : Vt) (t : List Nd) : Prop where
  gr : Grown soon (mapL l).es t
  hd : t[0]? = some (rootN v)
  en : bestL soon t (mapL l).es = none
  len : t.length ≤ 100000
  vs : ∀ n ∈ t, n.v ∈ (mapL l).vs
  nd : (t.map Nd.v).Nodup
theorem tr_of {l : List Ls} (h : Few l) {v : Vt} (hv : v ∈ (mapL l).vs) : Tr l v (refTree (mapL l) v) := by
  have hr : refTree (mapL l) v = treeN soon (mapL l).es (mapL l).vs.length [rootN v] := by
    unfold refTree
    rw [List.any_eq_true.2 ⟨v, hv, decide_eq_true rfl⟩]
  have hl := refTree_len (mapL l) v
  have := map_vs h
  obtain ⟨h1, ⟨r, h2⟩, h3, h4, h5⟩ := tree_end (bt := soon) (es := (mapL l).es) hv (fun e he => (map_to he).1)
  rw [← hr] at h1 h2 h3 h4 h5
  exact ⟨h1, by rw [h2]; rfl, h3, by omega, h4, h5⟩
theorem Tr.zero {l : List Ls} {v : Vt} {t : List Nd} (h : Tr l v t) : ∀ n, t[0]? = some n → n.c = 0 := fun n hn => by
  rw [h.hd] at hn; cases hn; rfl
theorem Tr.pos {l : List Ls} {v : Vt} {t : List Nd} (h : Tr l v t) : 0 < t.length := (List.getElem?_eq_some_iff.1 h.hd).1
theorem Tr.cost {l : List Ls} {v : Vt} {t : List Nd} (h : Tr l v t) (hc : ∀ e ∈ (mapL l).es, 0 ≤ e.c ∧ e.c ≤ 1000000) {j : Nat} {n : Nd} (hn : t[j]? = some n) : 0 ≤ n.c ∧ n.c ≤ 100000000000 := by
  obtain ⟨h1, h2⟩ := h.gr.cost (C := 1000000) h.zero h.len (by omega) hc j n hn
  have := (List.getElem?_eq_some_iff.1 hn).1
  have := h.len
  omega
end Go.Proofs.Ytmocggibcniggaa.Kt
