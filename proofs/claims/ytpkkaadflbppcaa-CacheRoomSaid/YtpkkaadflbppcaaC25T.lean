/- Part of the proofs of this seat's statements: what the functions compute. No condition. -/
import Derived.Test.YtpkkaadflbppcaaC25Q
set_option linter.unusedSimpArgs false
set_option linter.unusedVariables false
namespace Go.Proofs.Ytpkkaadflbppcaa.Kt
open Go Kw Go.Proofs
set_option maxRecDepth 100000
section
variable (ky : Nat → Int)
def RR : Nat → List (Int × Nat)
  | 0 => []
  | m + 1 => (ky m, m) :: (RR m).filter fun q => decide (q.1 ≠ ky m)
def toE (q : Int × Nat) : En := ⟨q.1, 32, 5, q.2, []⟩
def Ls (K m : Nat) : List En := (((RR ky m).take K).reverse).map toE
theorem RR_mem : ∀ (m : Nat) (q : Int × Nat), q ∈ RR ky m ↔ q.2 < m ∧ q.1 = ky q.2 ∧ ∀ j, q.2 < j → j < m → ky j ≠ q.1
  | 0, q => by unfold RR; simp
  | m + 1, q => by
    unfold RR
    rw [List.mem_cons, List.mem_filter, RR_mem m q]
    constructor
    · rintro (rfl | ⟨⟨h1, h2, h3⟩, h4⟩)
      · exact ⟨Nat.lt_succ_self _, rfl, fun j h1 h2 => by simp only at h1; omega⟩
      · refine ⟨by omega, h2, fun j h5 h6 => ?_⟩
        rcases Nat.lt_succ_iff_lt_or_eq.1 h6 with h6 | rfl
        · exact h3 j h5 h6
        · exact fun e => (of_decide_eq_true h4) e.symm
    · rintro ⟨h1, h2, h3⟩
      rcases Nat.lt_succ_iff_lt_or_eq.1 h1 with h1 | h1
      · exact .inr ⟨⟨h1, h2, fun j h4 h5 => h3 j h4 (by omega)⟩, decide_eq_true (fun e => h3 m h1 (Nat.lt_succ_self _) e.symm)⟩
      · left
        obtain ⟨a, b⟩ := q
        simp only at h1 h2
        subst h1
        rw [h2]
theorem RR_desc : ∀ m, (RR ky m).Pairwise fun a b => b.2 < a.2
  | 0 => by unfold RR; exact .nil
  | m + 1 => by
    unfold RR
    rw [List.pairwise_cons]
    refine ⟨fun q hq => ?_, (RR_desc m).filter _⟩
    have := ((RR_mem ky m q).1 (List.mem_filter.1 hq).1).1
    exact this
theorem RR_inj {m : Nat} {a b : Int × Nat} (ha : a ∈ RR ky m) (hb : b ∈ RR ky m) (h : a.1 = b.1) : a = b := by
  have h1 := (RR_mem ky m a).1 ha
  have h2 := (RR_mem ky m b).1 hb
  rcases Nat.lt_trichotomy a.2 b.2 with h3 | h3 | h3
  · exact absurd (h2.2.1.symm.trans h.symm) (fun e => h1.2.2 b.2 h3 h2.1 e)
  · exact Prod.ext h h3
  · exact absurd (h1.2.1.symm.trans h) (fun e => h2.2.2 a.2 h3 h1.1 e)
theorem RR_keys (m : Nat) : (RR ky m).Pairwise fun a b => a.1 ≠ b.1 := by
  have h := RR_desc ky m
  rw [List.pairwise_iff_getElem] at h ⊢
  intro i j hi hj hij e
  have := RR_inj ky (List.getElem_mem hi) (List.getElem_mem hj) e
  have h2 := h i j hi hj hij
  rw [this] at h2
  omega
end
theorem take_in {R : List (Int × Nat)} {key : Int} : ∀ {K : Nat}, R.Pairwise (fun a b => a.1 ≠ b.1) → (∃ q ∈ R.take K, q.1 = key) → (R.filter fun q => decide (q.1 ≠ key)).take (K - 1) = (R.take K).filter fun q => decide (q.1 ≠ key) := by
  induction R with
  | nil => intro K _ h; simp at h
  | cons r R ih =>
    intro K hp h
    rw [List.pairwise_cons] at hp
    cases K with
    | zero => simp at h
    | succ K =>
      rw [List.take_succ_cons] at h ⊢
      by_cases hr : r.1 = key
      · have hno : ∀ q ∈ R, decide (q.1 ≠ key) = true := fun q hq => decide_eq_true (fun e => hp.1 q hq (hr.trans e.symm))
        rw [List.filter_cons_of_neg (by simpa using hr), List.filter_cons_of_neg (by simpa using hr), List.filter_eq_self.2 hno, List.filter_eq_self.2 (fun q hq => hno q (List.mem_of_mem_take hq))]
        rfl
      · rw [List.filter_cons_of_pos (by simpa using hr), List.filter_cons_of_pos (by simpa using hr)]
        obtain ⟨q, hq, e⟩ := h
        rcases List.mem_cons.1 hq with rfl | hq
        · exact absurd e hr
        have := ih (K := K) hp.2 ⟨q, hq, e⟩
        cases K with
        | zero => simp at hq
        | succ K =>
          show (r :: _).take (K + 1) = _
          rw [List.take_succ_cons, ← this]
          rfl
theorem take_out {R : List (Int × Nat)} {key : Int} : ∀ {K : Nat}, (∀ q ∈ R.take K, q.1 ≠ key) → (R.filter fun q => decide (q.1 ≠ key)).take (K - 1) = R.take (K - 1) := by
  induction R with
  | nil => intro K _; simp
  | cons r R ih =>
    intro K h
    cases K with
    | zero => simp
    | succ K =>
      rw [List.take_succ_cons] at h
      have hr := h r (by simp)
      rw [List.filter_cons_of_pos (by simpa using hr)]
      cases K with
      | zero => simp
      | succ K =>
        show (r :: _).take (K + 1) = (r :: R).take (K + 1)
        rw [List.take_succ_cons, List.take_succ_cons]
        have := ih (K := K + 1) (fun q hq => h q (by simp [hq]))
        rw [show K + 1 - 1 = K from rfl] at this
        rw [this]
theorem erase_filter {p : Int} : ∀ {l : List En} {i : Nat}, (∀ e ∈ l, e.b = 32 ∧ e.g = 5) → l.Pairwise (fun a b => a.p ≠ b.p) → ixN p 32 5 l = some i → l.eraseIdx i = l.filter fun e => decide (e.p ≠ p)
  | [], i, _, _, h => by cases h
  | e :: l, i, hc, hp, h => by
    rw [List.pairwise_cons] at hp
    obtain ⟨c1, c2⟩ := hc e (by simp)
    unfold ixN at h
    by_cases he : e.p = p
    · have hm : mt p 32 5 e = true := by unfold mt; rw [decide_eq_true he, decide_eq_true c1, decide_eq_true c2]; rfl
      rw [hm, if_pos rfl] at h
      cases h
      have hf : l.filter (fun e => decide (e.p ≠ p)) = l := List.filter_eq_self.2 (fun q hq => decide_eq_true (fun (e' : q.p = p) => hp.1 q hq (he.trans e'.symm)))
      rw [List.eraseIdx_cons_zero, List.filter_cons_of_neg (by simpa using he), hf]
    · have hm : mt p 32 5 e = false := by unfold mt; rw [decide_eq_false he]; rfl
      rw [hm] at h
      simp only [Bool.false_eq_true, if_false] at h
      cases hr : ixN p 32 5 l with
      | none => rw [hr] at h; cases h
      | some j =>
        rw [hr] at h
        simp only [Option.map_some, Option.some.injEq] at h
        subst h
        rw [List.eraseIdx_cons_succ, List.filter_cons_of_pos (by simpa using he), erase_filter (fun e' h' => hc e' (by simp [h'])) hp.2 hr]
theorem Ls_len (ky : Nat → Int) (K m : Nat) : (Ls ky K m).length = min K (RR ky m).length := by unfold Ls; simp
theorem Ls_const (ky : Nat → Int) (K m : Nat) : ∀ e ∈ Ls ky K m, e.b = 32 ∧ e.g = 5 ∧ e.o = [] := fun e he => by
  unfold Ls at he
  obtain ⟨q, _, rfl⟩ := List.mem_map.1 he
  exact ⟨rfl, rfl, rfl⟩
theorem Ls_keys (ky : Nat → Int) (K m : Nat) : (Ls ky K m).Pairwise (fun a b => a.p ≠ b.p) := by
  unfold Ls
  rw [List.pairwise_map, List.pairwise_reverse]
  refine ((RR_keys ky m).sublist (List.take_sublist _ _)).imp (fun h => fun e => h e.symm)
theorem Ls_some {ky : Nat → Int} {K m i : Nat} (hK : 1 ≤ K) (h : ixN (ky m) 32 5 (Ls ky K m) = some i) : useL (Ls ky K m) i (toE (ky m, m)) = Ls ky K (m + 1) := by
  unfold useL
  rw [erase_filter (fun e he => ⟨(Ls_const ky K m e he).1, (Ls_const ky K m e he).2.1⟩) (Ls_keys ky K m) h]
  obtain ⟨e, he, hm⟩ := ixN_some h
  have hmem := List.mem_of_getElem? he
  unfold Ls at hmem ⊢
  obtain ⟨q, hq, rfl⟩ := List.mem_map.1 hmem
  rw [List.mem_reverse] at hq
  have hqk : q.1 = ky m := by
    unfold mt at hm
    rw [Bool.and_eq_true, Bool.and_eq_true] at hm
    exact of_decide_eq_true hm.1.1
  have h1 := take_in (K := K) (RR_keys ky m) ⟨q, hq, hqk⟩
  have h2 : (RR ky (m + 1)).take K = (ky m, m) :: ((RR ky m).take K).filter fun q => decide (q.1 ≠ ky m) := by
    rw [← h1]
    obtain ⟨K', rfl⟩ : ∃ K', K = K' + 1 := ⟨K - 1, by omega⟩
    rfl
  rw [h2, List.reverse_cons, List.map_append, List.filter_map, ← List.filter_reverse]
  rfl
theorem Ls_none {ky : Nat → Int} {K m : Nat} (hK : 1 ≤ K) (h : ixN (ky m) 32 5 (Ls ky K m) = none) : newL K (Ls ky K m) (toE (ky m, m)) = Ls ky K (m + 1) := by
  have hno := ixN_none h
  have hout : ∀ q ∈ (RR ky m).take K, q.1 ≠ ky m := fun q hq e => by
    have hmem : toE q ∈ Ls ky K m := by unfold Ls; exact List.mem_map.2 ⟨q, List.mem_reverse.2 hq, rfl⟩
    have := hno _ hmem
    unfold mt toE at this
    simp only at this
    rw [decide_eq_true e] at this
    cases this
  have h1 := take_out hout
  have h2 : (RR ky (m + 1)).take K = (ky m, m) :: (RR ky m).take (K - 1) := by
    rw [← h1]
    obtain ⟨K', rfl⟩ : ∃ K', K = K' + 1 := ⟨K - 1, by omega⟩
    rfl
  unfold newL
  rw [Ls_len]
  have h3 : (if (K : Int) ≤ (min K (RR ky m).length : Nat) then (Ls ky K m).drop 1 else Ls ky K m) = (((RR ky m).take (K - 1)).reverse).map toE := by
    split
    · rename_i hc
      have hc' : K ≤ (RR ky m).length := by omega
      unfold Ls
      rw [← List.map_drop]
      congr 1
      obtain ⟨K', rfl⟩ : ∃ K', K = K' + 1 := ⟨K - 1, by omega⟩
      obtain ⟨q, hq⟩ : ∃ q, (RR ky m)[K']? = some q := ⟨_, List.getElem?_eq_getElem (by omega)⟩
      rw [take_snoc hq, List.reverse_append]
      rfl
    · rename_i hc
      unfold Ls
      rw [List.take_of_length_le (by omega), List.take_of_length_le (by omega)]
  rw [h3]
  unfold Ls
  rw [h2, List.reverse_cons, List.map_append]
  rfl
/-! ### how many, from the end -/
def cnt (ky : Nat → Int) (M i : Nat) : Nat := ((RR ky M).filter fun q => decide (i ≤ q.2)).length
theorem desc_filter {R : List (Int × Nat)} (i : Nat) (h : R.Pairwise fun a b => b.2 < a.2) : R.filter (fun q => decide (i ≤ q.2)) = R.take (R.filter fun q => decide (i ≤ q.2)).length := by
  induction R with
  | nil => rfl
  | cons r R ih =>
    rw [List.pairwise_cons] at h
    by_cases hr : i ≤ r.2
    · rw [List.filter_cons_of_pos (by simpa using hr), List.length_cons, List.take_succ_cons, ← ih h.2]
    · have : R.filter (fun q => decide (i ≤ q.2)) = [] := List.filter_eq_nil_iff.2 (fun q hq => by have := h.1 q hq; simp; omega)
      rw [List.filter_cons_of_neg (by simpa using hr), this]
      rfl
theorem cnt_at {ky : Nat → Int} {M i : Nat} (h : (ky i, i) ∈ RR ky M) : cnt ky M i = cnt ky M (i + 1) + 1 ∧ (RR ky M)[cnt ky M (i + 1)]? = some (ky i, i) := by
  unfold cnt
  have hd := RR_desc ky M
  generalize RR ky M = R at h hd
  induction R with
  | nil => cases h
  | cons r R ih =>
    rw [List.pairwise_cons] at hd
    rcases List.mem_cons.1 h with rfl | h
    · have e1 : ∀ k, i ≤ k → R.filter (fun q => decide (k ≤ q.2)) = [] := fun k hk => List.filter_eq_nil_iff.2 (fun q hq => by have := hd.1 q hq; simp at this ⊢; omega)
      rw [List.filter_cons_of_pos (by simp), List.filter_cons_of_neg (by simp), e1 i (Nat.le_refl _), e1 (i + 1) (by omega)]
      exact ⟨rfl, rfl⟩
    · have hr : i < r.2 := hd.1 _ h
      obtain ⟨h1, h2⟩ := ih h hd.2
      rw [List.filter_cons_of_pos (by simp; omega), List.filter_cons_of_pos (by simp; omega), List.length_cons, List.length_cons, h1]
      exact ⟨rfl, by rw [List.getElem?_cons_succ]; exact h2⟩
theorem cnt_not {ky : Nat → Int} {M i : Nat} (h : (ky i, i) ∉ RR ky M) : cnt ky M i = cnt ky M (i + 1) := by
  unfold cnt
  congr 1
  refine List.filter_congr (fun q hq => ?_)
  refine decide_eq_decide.2 ⟨fun hle => ?_, fun hle => by omega⟩
  rcases Nat.lt_or_eq_of_le hle with hlt | heq
  · exact hlt
  · exfalso
    apply h
    have := (RR_mem ky M q).1 hq
    obtain ⟨a, b⟩ := q
    simp only at heq this
    subst heq
    rw [this.2.1] at hq
    exact hq
theorem cnt_top (ky : Nat → Int) (M : Nat) : cnt ky M M = 0 := by
  unfold cnt
  rw [List.length_eq_zero_iff, List.filter_eq_nil_iff]
  intro q hq
  have := ((RR_mem ky M q).1 hq).1
  simp; omega
theorem cnt_zero (ky : Nat → Int) (M : Nat) : cnt ky M 0 = (RR ky M).length := by
  unfold cnt
  rw [List.filter_eq_self.2 (fun q _ => by simp)]
theorem in_take {ky : Nat → Int} {M i K : Nat} (h : (ky i, i) ∈ RR ky M) : (ky i, i) ∈ (RR ky M).take K ↔ cnt ky M i ≤ K := by
  obtain ⟨h1, h2⟩ := cnt_at h
  have hd := RR_desc ky M
  constructor
  · intro hm
    obtain ⟨j, hj⟩ := List.mem_iff_getElem?.1 hm
    rw [List.getElem?_take] at hj
    split at hj
    · rename_i hjK
      have : j = cnt ky M (i + 1) := by
        rw [List.pairwise_iff_getElem] at hd
        have l1 := (List.getElem?_eq_some_iff.1 hj)
        have l2 := (List.getElem?_eq_some_iff.1 h2)
        obtain ⟨a1, a2⟩ := l1
        obtain ⟨b1, b2⟩ := l2
        rcases Nat.lt_trichotomy j (cnt ky M (i + 1)) with h | h | h
        · have := hd _ _ a1 b1 h; rw [a2, b2] at this; omega
        · exact h
        · have := hd _ _ b1 a1 h; rw [a2, b2] at this; omega
      omega
    · cases hj
  · intro hc
    exact List.mem_iff_getElem?.2 ⟨cnt ky M (i + 1), by rw [List.getElem?_take, if_pos (by omega)]; exact h2⟩
end Go.Proofs.Ytpkkaadflbppcaa.Kt
