/- Part of the proofs of this seat's statements: what the functions compute. No condition. -/
import Derived.Test.YtnenbopcoghmaaaC0Y3
set_option linter.unusedSimpArgs false
set_option linter.unusedVariables false
namespace Go.Proofs.Ytnenbopcoghmaaa.Kt
open Go Kw Go.Proofs
attribute [local irreducible] Kw.GI Kw.GR Kw.FnR Kw.FnX
set_option maxHeartbeats 4000000
set_option maxRecDepth 100000
theorem adr_only {p : Cd → Bool} {l : List Cd} {a : Int} (h : ∃ c ∈ l, 0 < c.prio ∧ p c = true) (hu : ∀ c ∈ l, p c = true → c.addr = a) : elig p l = true ∧ adr (bst p l) = a := by
  have e : elig p l = true := by
    obtain ⟨c, h1, h2, h3⟩ := h
    unfold elig
    rw [List.any_eq_true]
    exact ⟨c, h1, by simp [h2, h3]⟩
  refine ⟨e, ?_⟩
  cases hb : bst p l with
  | none =>
    have := (bst_none hb).2
    unfold elig at e
    rw [this] at e
    cases e
  | some x =>
    obtain ⟨h1, h2, h3⟩ := bst_some (l := l) (m := none) (fun _ h => by cases h) x hb
    exact hu x (by rcases h1 with h1 | h1; exact h1; cases h1) h3
theorem elig_no {p : Cd → Bool} {l : List Cd} (h : ∀ c ∈ l, p c = false) : elig p l = false := by
  unfold elig
  rw [List.any_eq_false]
  intro c hc
  simp [h c hc]
abbrev sta (P : List Int) : List Cd := st P (fun _ => 11) (fun _ => 12)
def nw (p : Int) : Cd := ⟨90, 99, p, 0, 0⟩
theorem sta_at {P : List Int} {j : Nat} {p : Int} (h : P[j]? = some p) : (sta P)[j]? = some ⟨1 + j, 11 + j, p, 11, 12⟩ := by rw [st_get, h]; rfl
section
variable {P : List Int} (hp : ∀ p ∈ P, 0 < p) (h2 : 2 ≤ P.length) (q : Int)
include hp h2
theorem at_pos {j : Nat} (h : j < 2) : ∃ p, P[j]? = some p ∧ 0 < p := ⟨P[j], List.getElem?_eq_getElem (by omega), hp _ (List.getElem_mem _)⟩
theorem come_rnd : rnd (sta P ++ [nw q]) = (11, 12) := by
  obtain ⟨p0, e0, f0⟩ := at_pos hp h2 (j := 0) (by omega)
  obtain ⟨p1, e1, f1⟩ := at_pos hp h2 (j := 1) (by omega)
  have m0 := List.mem_of_getElem? (sta_at e0)
  have m1 := List.mem_of_getElem? (sta_at e1)
  obtain ⟨a1, a2⟩ := adr_only (p := fDes) (l := sta P ++ [nw q]) (a := 11) ⟨_, List.mem_append_left _ m0, f0, rfl⟩ (fun c hc hd => by
    rcases List.mem_append.1 hc with hc | hc
    · obtain ⟨j, p, _, rfl⟩ := st_mem hc
      unfold fDes at hd
      have := of_decide_eq_true hd
      exact this.symm
    · rw [List.mem_singleton.1 hc] at hd
      cases hd)
  obtain ⟨b1, b2⟩ := adr_only (p := fBak) (l := sta P ++ [nw q]) (a := 12) ⟨_, List.mem_append_left _ m1, f1, rfl⟩ (fun c hc hd => by
    rcases List.mem_append.1 hc with hc | hc
    · obtain ⟨j, p, _, rfl⟩ := st_mem hc
      unfold fBak at hd
      rw [Bool.and_eq_true] at hd
      exact (of_decide_eq_true hd.2).symm
    · rw [List.mem_singleton.1 hc] at hd
      cases hd)
  unfold rnd
  rw [a1, a2, b1, b2]
  rfl
theorem come_elec {k : Nat} {c : Cd} (hc : (sta P ++ [nw q])[k]? = some c) : elec c ((sta P ++ [nw q]).eraseIdx k) = (11, 12) := by
  rw [elec_set hc, come_rnd hp h2 q]
  have : turned c (11, 12) = false := by
    rcases List.mem_append.1 (List.mem_of_getElem? hc) with hm | hm
    · obtain ⟨j, p, _, rfl⟩ := st_mem hm
      unfold turned says
      simp
    · rw [List.mem_singleton.1 hm]
      rfl
  rw [this]
  rfl
theorem gone_elec {c : Cd} (hc : ((sta P).drop 1)[0]? = some c) : (elec c (((sta P).drop 1).eraseIdx 0)).1 = 12 := by
  obtain ⟨p1, e1, f1⟩ := at_pos hp h2 (j := 1) (by omega)
  have k1 := sta_at e1
  have k1' : ((sta P).drop 1)[0]? = some ⟨1 + 1, 11 + 1, p1, 11, 12⟩ := by rw [List.getElem?_drop]; exact k1
  rw [hc] at k1'
  simp only [Option.some.injEq] at k1'
  have mem : ∀ x ∈ (sta P).drop 1, ∃ (j : Nat) (p : Int), x = ⟨1 + (j + 1 : Nat), 11 + (j + 1 : Nat), p, 11, 12⟩ := fun x hx => by
    obtain ⟨j, hj⟩ := List.mem_iff_getElem?.1 hx
    rw [List.getElem?_drop, st_get] at hj
    cases hP : P[1 + j]? with
    | none => rw [hP] at hj; cases hj
    | some p => rw [hP] at hj; simp at hj; exact ⟨j, p, by rw [← hj]; simp; omega⟩
  have a1 : elig fDes ((sta P).drop 1) = false := elig_no (fun x hx => by
    obtain ⟨j, p, rfl⟩ := mem x hx
    unfold fDes
    exact decide_eq_false (by simp; omega))
  obtain ⟨b1, b2⟩ := adr_only (p := fBak) (l := (sta P).drop 1) (a := 12) ⟨c, List.mem_of_getElem? hc, by rw [k1']; exact f1, by rw [k1']; rfl⟩ (fun x hx hd => by
    obtain ⟨j, p, rfl⟩ := mem x hx
    unfold fBak at hd
    rw [Bool.and_eq_true] at hd
    exact (of_decide_eq_true hd.2).symm)
  have r : rnd ((sta P).drop 1) = (12, 12) := by
    unfold rnd
    rw [a1, b1, b2]
    rfl
  have ln := (List.getElem?_eq_some_iff.1 hc).1
  rw [elec_set hc, r, if_pos (by rw [k1']; rfl)]
  obtain ⟨d1, d2⟩ := adr_only (p := fDes) (l := ((sta P).drop 1).set 0 (upd (12, 12) c)) (a := 12) ⟨upd (12, 12) c, by
      refine List.mem_iff_getElem?.2 ⟨0, ?_⟩
      rw [List.getElem?_set]
      rw [if_pos rfl, if_pos ln], by rw [k1']; exact f1, by rw [k1']; rfl⟩ (fun x hx hd => by
    rcases List.mem_or_eq_of_mem_set hx with hx | rfl
    · obtain ⟨j, p, rfl⟩ := mem x hx
      unfold fDes at hd
      have := of_decide_eq_true hd
      simp at this
      omega
    · rw [k1']; rfl)
  unfold rnd
  rw [d1, d2]
  rfl
end
end Go.Proofs.Ytnenbopcoghmaaa.Kt
