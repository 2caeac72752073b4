/- Part of the proofs of this seat's statements: what the functions compute. No condition. -/
import Derived.Test.YtpkkaadflbppcaaC25Ea
set_option linter.unusedSimpArgs false
set_option linter.unusedVariables false
namespace Go.Proofs.Ytpkkaadflbppcaa.Kt
open Go Kw Go.Proofs
abbrev sk (a b : En) : Prop := ¬ (a.g = b.g ∧ a.p = b.p ∧ a.b = b.b)
theorem sk_symm : ∀ {x y : En}, sk x y → sk y x := fun h k => h ⟨k.1.symm, k.2.1.symm, k.2.2.symm⟩
theorem Nd_iff {l : List En} : Nd l ↔ l.Pairwise sk := by
  constructor
  · intro h
    refine List.pairwise_iff_getElem.2 (fun i j hi hj hij k => ?_)
    have := h i j _ _ (List.getElem?_eq_getElem hi) (List.getElem?_eq_getElem hj) k.1 k.2.1 k.2.2
    omega
  · intro h i j a b ha hb h1 h2 h3
    obtain ⟨hi, ei⟩ := List.getElem?_eq_some_iff.1 ha
    obtain ⟨hj, ej⟩ := List.getElem?_eq_some_iff.1 hb
    have h' := List.pairwise_iff_getElem.1 h
    rcases Nat.lt_trichotomy i j with q | q | q
    · have t := h' i j hi hj q; rw [ei, ej] at t; exact (t ⟨h1, h2, h3⟩).elim
    · exact q
    · have t := h' j i hj hi q; rw [ei, ej] at t; exact (t ⟨h1.symm, h2.symm, h3.symm⟩).elim
theorem er_perm {α : Type} : ∀ {l : List α} {i : Nat} {x : α}, l[i]? = some x → l.Perm (x :: l.eraseIdx i)
  | [], i, x, h => by simp at h
  | y :: l, 0, x, h => by simp at h; subst h; exact List.Perm.refl _
  | y :: l, i + 1, x, h => by
    rw [List.getElem?_cons_succ] at h
    rw [List.eraseIdx_cons_succ]
    exact ((er_perm h).cons y).trans (List.Perm.swap x y _)
structure Iv (l : List En) (n : Nat) : Prop where
  nd : Nd l
  len : l.length ≤ n
  out : ∀ e ∈ l, e.o.length ≤ 60
theorem Iv.nil (n : Nat) : Iv [] n := ⟨fun i j a b h => by simp at h, Nat.zero_le _, fun e h => by cases h⟩
theorem Iv.up {l : List En} {n : Nat} (h : Iv l n) : Iv l (n + 1) := ⟨h.nd, by have := h.len; omega, h.out⟩
theorem Iv.use {l : List En} {n i : Nat} {x : En} (e : En) (h : Iv l n) (hx : l[i]? = some x) (h1 : e.g = x.g) (h2 : e.p = x.p) (h3 : e.b = x.b) (ho : e.o.length ≤ 60) : Iv (useL l i e) n := by
  have hi := (List.getElem?_eq_some_iff.1 hx).1
  refine ⟨Nd_iff.2 ?_, by rw [useL_len e hi]; exact h.len, fun y hy => ?_⟩
  · have hp := (List.Perm.pairwise_iff (R := sk) sk_symm (er_perm hx)).1 (Nd_iff.1 h.nd)
    refine (List.Perm.pairwise_iff (R := sk) sk_symm (List.perm_append_comm (l₁ := l.eraseIdx i) (l₂ := [e]))).2 ?_
    rw [List.singleton_append]
    rw [List.pairwise_cons] at hp ⊢
    refine ⟨fun y hy k => hp.1 y hy ?_, hp.2⟩
    rw [← h1, ← h2, ← h3]; exact k
  · unfold useL at hy
    rcases List.mem_append.1 hy with hy | hy
    · exact h.out y (List.mem_of_mem_eraseIdx hy)
    · rw [List.mem_singleton.1 hy]; exact ho
theorem Iv.new {l : List En} {n : Nat} {room : Int} (e : En) (h : Iv l n) (hi : ixN e.p e.b e.g l = none) (ho : e.o.length ≤ 60) : Iv (newL room l e) (n + 1) := by
  have hs : (if room ≤ l.length then l.drop 1 else l).Sublist l := by split; exact List.drop_sublist _ _; exact List.Sublist.refl _
  have hl := hs.length_le
  have hn := h.len
  have hno := ixN_none hi
  unfold newL
  refine ⟨Nd_iff.2 ?_, by rw [List.length_append, List.length_singleton]; omega, fun y hy => ?_⟩
  · refine List.pairwise_append.2 ⟨(Nd_iff.1 h.nd).sublist hs, List.pairwise_singleton _ _, fun a ha b hb k => ?_⟩
    rw [List.mem_singleton.1 hb] at k
    have := hno a (hs.subset ha)
    unfold mt at this
    rw [k.1, k.2.1, k.2.2] at this
    simp at this
  · rcases List.mem_append.1 hy with hy | hy
    · exact h.out y (hs.subset hy)
    · rw [List.mem_singleton.1 hy]; exact ho
theorem Nd.inj {l l' : List En} (h : Nd l) (hp : l'.Perm l) : ∀ a ∈ l', ∀ b ∈ l', a.g = b.g → a.p = b.p → a.b = b.b → a = b := fun a ha b hb h1 h2 h3 => by
  obtain ⟨i, hi⟩ := List.mem_iff_getElem?.1 (hp.subset ha)
  obtain ⟨j, hj⟩ := List.mem_iff_getElem?.1 (hp.subset hb)
  have := h i j a b hi hj h1 h2 h3
  subst this
  rw [hi] at hj
  exact Option.some.inj hj
theorem all_same {l l1 l2 : List En} (h : Nd l) (p1 : l1.Perm l) (s1 : Srt l1) (p2 : l2.Perm l) (s2 : Srt l2) : l2 = l1 :=
  sorted_eq (p2.trans p1.symm) s2 s1 (h.inj p1)
end Go.Proofs.Ytpkkaadflbppcaa.Kt
