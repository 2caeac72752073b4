/- Part of the proofs of this seat's statements: what the functions compute. No condition. -/
import Derived.Test.YtpkkaadflbppcaaC25H
set_option linter.unusedSimpArgs false
set_option linter.unusedVariables false
namespace Go.Proofs.Ytpkkaadflbppcaa.Kt
open Go Kw Go.Proofs
attribute [local irreducible] Kw.GI Kw.GR Kw.FnR Kw.FnX
set_option maxHeartbeats 4000000
set_option maxRecDepth 100000
def getL (p b g : Int) (l : List En) : List En := match ixN p b g l with
  | some i => match l[i]? with
    | some e => useL l i e
    | none => l
  | none => l
def seq1 (K : Nat) : Nat → List En
  | 0 => []
  | j + 1 => newL K (seq1 K j) (e0 j 0 5 0)
def seq2 (K x : Nat) : Nat → List En
  | 0 => getL x 0 5 (seq1 K K)
  | j + 1 => newL K (seq2 K x j) (e0 (100 + j) 0 5 0)
def seq3 (K x : Nat) : Nat → List En
  | 0 => getL x 0 5 (seq2 K x (K - 1))
  | j + 1 => getL j 0 5 (seq3 K x j)
def chk (l : List En) : Bool := decide (l.length ≤ 11) && l.all fun e => e.o.isEmpty
def okK (K x : Nat) : Bool :=
  ((List.range K).all fun j => (ixN j 0 5 (seq1 K j)).isNone && chk (seq1 K j)) && ((ixN x 0 5 (seq1 K K)).isSome && chk (seq1 K K))
  && ((List.range (K - 1)).all fun j => (ixN (100 + j) 0 5 (seq2 K x j)).isNone && decide (K ≤ (seq2 K x j).length) && chk (seq2 K x j))
  && ((ixN x 0 5 (seq2 K x (K - 1))).isSome && chk (seq2 K x (K - 1)))
  && ((List.range K).all fun j => ((ixN j 0 5 (seq3 K x j)).isSome == decide (j = x)) && chk (seq3 K x j))
theorem ok_all : ((List.range 12).all fun K => decide (K < 2) || (List.range K).all fun x => okK K x) = true := by decide +kernel
theorem ok_K {K x : Nat} (h1 : 2 ≤ K) (h2 : K ≤ 11) (hx : x < K) : okK K x = true := by
  have h := List.all_eq_true.1 ok_all K (List.mem_range.2 (by omega))
  rw [Bool.or_eq_true] at h
  rcases h with h | h
  · have := of_decide_eq_true h; omega
  · exact List.all_eq_true.1 h x (List.mem_range.2 hx)
structure Facts (K x : Nat) : Prop where
  a : ∀ j, j < K → ixN j 0 5 (seq1 K j) = none ∧ (seq1 K j).length ≤ 11
  b : ∃ i e, ixN x 0 5 (seq1 K K) = some i ∧ (seq1 K K)[i]? = some e ∧ e.o.length < 1000000 ∧ useL (seq1 K K) i e = seq2 K x 0
  b' : (seq1 K K).length ≤ 11
  c : ∀ j, j < K - 1 → ixN (100 + j) 0 5 (seq2 K x j) = none ∧ K ≤ (seq2 K x j).length ∧ (seq2 K x j).length ≤ 11
  d : ∃ i e, ixN x 0 5 (seq2 K x (K - 1)) = some i ∧ (seq2 K x (K - 1))[i]? = some e ∧ e.o.length < 1000000 ∧ useL (seq2 K x (K - 1)) i e = seq3 K x 0
  d' : (seq2 K x (K - 1)).length ≤ 11
  e : ∀ j, j < K → (seq3 K x j).length ≤ 11 ∧ ((j = x ∧ ∃ i e, ixN j 0 5 (seq3 K x j) = some i ∧ (seq3 K x j)[i]? = some e ∧ e.o.length < 1000000 ∧ useL (seq3 K x j) i e = seq3 K x (j + 1)) ∨ (j ≠ x ∧ ixN j 0 5 (seq3 K x j) = none ∧ seq3 K x j = seq3 K x (j + 1)))
theorem some_of {p b g : Int} {l : List En} (h : (ixN p b g l).isSome = true) (hc : chk l = true) : ∃ i e, ixN p b g l = some i ∧ l[i]? = some e ∧ e.o.length < 1000000 ∧ useL l i e = getL p b g l := by
  obtain ⟨i, hi⟩ := Option.isSome_iff_exists.1 h
  obtain ⟨e, he, _⟩ := ixN_some hi
  refine ⟨i, e, hi, he, ?_, ?_⟩
  · unfold chk at hc
    rw [Bool.and_eq_true] at hc
    have := List.all_eq_true.1 hc.2 e (List.mem_of_getElem? he)
    simp only [List.isEmpty_iff] at this
    rw [this]; decide
  · unfold getL
    simp only [hi, he]
theorem chk_len {l : List En} (h : chk l = true) : l.length ≤ 11 := by
  unfold chk at h
  rw [Bool.and_eq_true] at h
  exact of_decide_eq_true h.1
theorem facts {K x : Nat} (h1 : 2 ≤ K) (h2 : K ≤ 11) (hx : x < K) : Facts K x := by
  have h := ok_K h1 h2 hx
  unfold okK at h
  simp only [Bool.and_eq_true] at h
  obtain ⟨⟨⟨⟨ha, hb⟩, hc⟩, hd⟩, he⟩ := h
  refine ⟨fun j hj => ?_, some_of hb.1 hb.2, chk_len hb.2, fun j hj => ?_, some_of hd.1 hd.2, chk_len hd.2, fun j hj => ?_⟩
  · have := List.all_eq_true.1 ha j (List.mem_range.2 hj)
    rw [Bool.and_eq_true] at this
    exact ⟨by simpa using this.1, chk_len this.2⟩
  · have := List.all_eq_true.1 hc j (List.mem_range.2 hj)
    rw [Bool.and_eq_true, Bool.and_eq_true] at this
    exact ⟨by simpa using this.1.1, of_decide_eq_true this.1.2, chk_len this.2⟩
  · have := List.all_eq_true.1 he j (List.mem_range.2 hj)
    rw [Bool.and_eq_true] at this
    refine ⟨chk_len this.2, ?_⟩
    have h3 := this.1
    by_cases hjx : j = x
    · left
      rw [decide_eq_true hjx] at h3
      exact ⟨hjx, some_of (by simpa using h3) this.2⟩
    · right
      rw [decide_eq_false hjx] at h3
      have hn : ixN j 0 5 (seq3 K x j) = none := by simpa using h3
      refine ⟨hjx, hn, ?_⟩
      show _ = getL j 0 5 (seq3 K x j)
      unfold getL
      rw [hn]
end Go.Proofs.Ytpkkaadflbppcaa.Kt
