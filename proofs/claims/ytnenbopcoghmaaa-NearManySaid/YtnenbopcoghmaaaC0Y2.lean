/- Part of the proofs of this seat's statements: what the functions compute. No condition. -/
import Derived.Test.YtnenbopcoghmaaaC0Y1
set_option linter.unusedSimpArgs false
set_option linter.unusedVariables false
namespace Go.Proofs.Ytnenbopcoghmaaa.Kt
open Go Kw Go.Proofs
set_option maxHeartbeats 4000000
set_option maxRecDepth 100000
/-! ### what the rounds settle -/
abbrev topA (P : List Int) : Int := Bq P fun _ => true
abbrev topB (P : List Int) : Int := Bq P fun a => decide (a ≠ topA P)
theorem Eq_at {P : List Int} (h : Eq' P (fun _ => true) = true) {q : Int → Bool} (hq : ∀ j : Nat, q (11 + j) = decide ((11 : Int) + j = topA P)) : Eq' P q = true ∧ Bq P q = topA P := by
  obtain ⟨_, j, _, h2, h3⟩ := Bq_in h
  have e : Eq' P q = true := h3 q (by
    show q (topA P) = true
    have := hq j
    rw [← h2] at this
    rw [this]; simp)
  obtain ⟨h4, i, _, h5, _⟩ := Bq_in e
  refine ⟨e, ?_⟩
  have := hq i
  rw [← h5, h4] at this
  have := of_decide_eq_true this.symm
  rw [this]
theorem Eq_b {P : List Int} {q : Int → Bool} (hq : ∀ j : Nat, q (11 + j) = true → (11 : Int) + j = topB P) : Eq' P q = true → Bq P q = topB P := by
  intro e
  obtain ⟨h4, i, _, h5, _⟩ := Bq_in e
  rw [h5] at h4 ⊢
  exact hq i h4
theorem Eq_no {P : List Int} {q : Int → Bool} (hq : ∀ j : Nat, q (11 + j) = false) : Eq' P q = false := by
  cases h : Eq' P q with
  | false => rfl
  | true =>
    obtain ⟨h4, i, _, h5, _⟩ := Bq_in h
    rw [h5, hq i] at h4
    cases h4
theorem dead_all {P : List Int} (h : Eq' P (fun _ => true) = false) (q : Int → Bool) : Eq' P q = false := by
  cases hq : Eq' P q with
  | false => rfl
  | true => rw [Eq_mono (q' := fun _ => true) (fun _ _ => rfl) hq] at h; cases h
/-- what one says behind a round -/
def nxt (P : List Int) (d e : Int → Int) (k : Nat) : Int × Int := match (st P d e)[k]? with
  | none => (0, 0)
  | some c => elec c ((st P d e).eraseIdx k)
theorem dead_rnd {P : List Int} (h : Eq' P (fun _ => true) = false) (d e : Int → Int) : rnd (st P d e) = (0, 0) := by
  rw [rnd_st P d e (fun a => decide (d a = a)) (fun a => decide (d a ≠ a) && decide (e a = a)) (fun a => decide (d a ≠ a)) (fun _ _ => rfl) (fun _ _ => rfl) (fun _ _ => rfl)]
  simp only [dead_all h, Bq_out (dead_all h _)]
  rfl
theorem dead_nxt {P : List Int} (h : Eq' P (fun _ => true) = false) (d e : Int → Int) (k : Nat) : nxt P d e k = (0, 0) := by
  unfold nxt
  cases hc : (st P d e)[k]? with
  | none => rfl
  | some c =>
    simp only
    rw [elec_st hc, dead_rnd h, dead_rnd h]
    split <;> rfl
theorem says_at {P : List Int} {d e : Int → Int} {k : Nat} {c : Cd} (h : (st P d e)[k]? = some c) : c.addr = 11 + k ∧ c.dr = d (11 + k) ∧ c.bdr = e (11 + k) := by
  rw [st_get] at h
  cases hp : P[k]? with
  | none => rw [hp] at h; cases h
  | some p => rw [hp] at h; simp at h; subst h; exact ⟨rfl, rfl, rfl⟩
theorem nxt_eq {P : List Int} {d e : Int → Int} {k : Nat} {x : Int × Int} (hk : k < P.length) (hr : rnd (st P d e) = x) : nxt P d e k = if ((decide (x.1 = 11 + k) != decide (d (11 + k) = 11 + k)) || (decide (x.2 = 11 + k) != decide (e (11 + k) = 11 + k))) then rnd (st P (at1 (11 + k) x.1 d) (at1 (11 + k) x.2 e)) else x := by
  obtain ⟨c, hc⟩ : ∃ c, (st P d e)[k]? = some c := ⟨_, List.getElem?_eq_getElem (by rw [st_length]; exact hk)⟩
  obtain ⟨h1, h2, h3⟩ := says_at hc
  unfold nxt
  rw [hc]
  simp only
  rw [elec_st hc, hr]
  unfold turned says
  rw [h1, h2, h3]
section
variable {P : List Int} (h : Eq' P (fun _ => true) = true)
include h
theorem topA_ne : ∃ j : Nat, j < P.length ∧ topA P = 11 + j := by
  obtain ⟨_, j, h1, h2, _⟩ := Bq_in h
  exact ⟨j, h1, h2⟩
omit h in
theorem topB_ne : topB P ≠ topA P ∨ topA P = 0 := by
  cases hq : Eq' P fun a => decide (a ≠ topA P) with
  | true => exact .inl (by have := (Bq_in hq).1; exact of_decide_eq_true this)
  | false =>
    have := Bq_out hq
    by_cases h0 : topA P = 0
    · exact .inr h0
    · exact .inl (by show Bq P _ ≠ _; rw [this]; exact fun e => h0 e.symm)
omit h in
/-- At first. -/
theorem rnd0 : rnd (st P (fun _ => 0) (fun _ => 0)) = (topA P, topA P) := by
  rw [rnd_st P _ _ (fun _ => false) (fun _ => false) (fun _ => true) (fun j _ => by symm; simp <;> omega) (fun j _ => by symm; simp <;> omega) (fun j _ => by symm; simp <;> omega), Eq_no (fun _ => rfl)]
  rfl
theorem rnd1 : rnd (st P (at1 (topA P) (topA P) (fun _ => 0)) (at1 (topA P) (topA P) (fun _ => 0))) = (topA P, topB P) := by
  have e1 := Eq_at h (q := fun a => decide (a = topA P)) (fun _ => rfl)
  have e2 : ∀ j : Nat, decide ((at1 (topA P) (topA P) fun _ => 0) (11 + j) = 11 + j) = decide ((11 : Int) + j = topA P) := fun j => by
    unfold at1
    refine decide_eq_decide.2 ?_
    by_cases hh : (11 : Int) + j = topA P
    · rw [if_pos hh]; exact ⟨fun _ => hh, fun e => e.symm⟩
    · rw [if_neg hh]; exact ⟨fun e => by have e' : (0 : Int) = 11 + j := e; omega, fun e => absurd e hh⟩
  rw [rnd_st P _ _ (fun a => decide (a = topA P)) (fun _ => false) (fun a => decide (a ≠ topA P)) (fun j _ => (e2 j).symm) (fun j _ => by rw [decide_not, e2]; simp) (fun j _ => by rw [decide_not, decide_not, e2]), Eq_no (q := fun _ => false) (fun _ => rfl), e1.1, e1.2]
  rfl
theorem nxt0 {k : Nat} (hk : k < P.length) : nxt P (fun _ => 0) (fun _ => 0) k = (topA P, if (11 : Int) + k = topA P then topB P else topA P) := by
  rw [nxt_eq hk rnd0]
  have e0 : decide ((0 : Int) = 11 + k) = false := decide_eq_false (by omega)
  by_cases hA : (11 : Int) + k = topA P
  · rw [if_pos (by simp only [e0]; rw [decide_eq_true hA.symm]; rfl), if_pos hA, hA, rnd1 h]
  · rw [if_neg (by simp only [e0]; rw [decide_eq_false (fun e => hA e.symm)]; simp), if_neg hA]
/-- All say the designated one, who says the backup. -/
theorem rnd2 {e : Int → Int} (he : ∀ j : Nat, (11 : Int) + j ≠ topA P → e (11 + j) = 11 + j → (11 : Int) + j = topB P) : rnd (st P (fun _ => topA P) e) = (topA P, topB P) := by
  have e1 := Eq_at h (q := fun a => decide (a = topA P)) (fun _ => rfl)
  rw [rnd_st P _ _ (fun a => decide (a = topA P)) (fun a => decide (topA P ≠ a) && decide (e a = a)) (fun a => decide (a ≠ topA P)) (fun j _ => decide_eq_decide.2 eq_comm) (fun j _ => rfl) (fun j _ => decide_eq_decide.2 ⟨Ne.symm, Ne.symm⟩), e1.1, e1.2]
  have e2 := Eq_b (P := P) (q := fun a => decide (topA P ≠ a) && decide (e a = a)) (fun j hj => by
    simp only [Bool.and_eq_true, decide_eq_true_eq] at hj
    exact he j (Ne.symm hj.1) hj.2)
  simp only [if_true]
  split
  · rename_i h3; rw [e2 h3]
  · rfl
def e1f (P : List Int) : Int → Int := fun a => if a = topA P then topB P else topA P
theorem nxt1 {k : Nat} (hk : k < P.length) : nxt P (fun _ => topA P) (e1f P) k = (topA P, topB P) := by
  have r : rnd (st P (fun _ => topA P) (e1f P)) = (topA P, topB P) := rnd2 h (fun j h1 h2 => by
    unfold e1f at h2
    rw [if_neg h1] at h2
    exact absurd h2.symm h1)
  rw [nxt_eq hk r]
  split
  · have : at1 (11 + k) (topA P) (fun _ => topA P) = fun _ => topA P := by funext a; unfold at1; split <;> rfl
    rw [this]
    refine rnd2 h (fun j h1 h2 => ?_)
    unfold at1 e1f at h2
    by_cases hh : (11 : Int) + j = 11 + k
    · rw [if_pos hh] at h2; exact h2.symm
    · rw [if_neg hh, if_neg h1] at h2
      exact absurd h2.symm h1
  · rfl
theorem nxt2 {k : Nat} (hk : k < P.length) : nxt P (fun _ => topA P) (fun _ => topB P) k = (topA P, topB P) := by
  have r : rnd (st P (fun _ => topA P) (fun _ => topB P)) = (topA P, topB P) := rnd2 h (fun j h1 h2 => h2.symm)
  rw [nxt_eq hk r, if_neg (by simp)]
end
/-- The words of the n-th round. -/
def rw' (P : List Int) : Nat → (Int → Int) × (Int → Int)
  | 0 => (fun _ => 0, fun _ => 0)
  | 1 => (fun _ => topA P, e1f P)
  | _ + 2 => (fun _ => topA P, fun _ => topB P)
theorem topB_dead {P : List Int} (h : Eq' P (fun _ => true) = false) : topA P = 0 ∧ topB P = 0 := ⟨Bq_out h, Bq_out (dead_all h _)⟩
theorem nxt_rw {P : List Int} {n k : Nat} (hk : k < P.length) : nxt P (rw' P n).1 (rw' P n).2 k = ((rw' P (n + 1)).1 (11 + k), (rw' P (n + 1)).2 (11 + k)) := by
  cases h : Eq' P (fun _ => true) with
  | false =>
    obtain ⟨a, b⟩ := topB_dead h
    rw [dead_nxt h]
    cases n with
    | zero =>
      show _ = (topA P, e1f P _)
      unfold e1f
      rw [a, b]
      split <;> rfl
    | succ n =>
      show _ = (topA P, topB P)
      rw [a, b]
  | true =>
    match n with
    | 0 => exact nxt0 h hk
    | 1 => exact nxt1 h hk
    | n + 2 => exact nxt2 h hk
end Go.Proofs.Ytnenbopcoghmaaa.Kt
