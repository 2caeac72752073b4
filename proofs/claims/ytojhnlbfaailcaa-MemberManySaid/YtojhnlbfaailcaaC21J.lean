/- Part of the proofs of this seat's statements: what the functions compute. No condition. -/
import Derived.Test.YtojhnlbfaailcaaC21H
set_option linter.unusedSimpArgs false
set_option linter.unusedVariables false
namespace Go.Proofs.Ytojhnlbfaailcaa.Kt
open Go Kw Go.Proofs
attribute [local irreducible] Kw.GI Kw.GR Kw.FnR Kw.FnX
set_option maxHeartbeats 4000000
set_option maxRecDepth 100000
section
variable {g l q n : Int} (hl : 1 ≤ l ∧ l ≤ 100) (hq : q = 0 ∨ q = 1) (hn : 0 ≤ n ∧ n ≤ 10)
include hl
theorem dead_e : dead ⟨g, l, 0, q, n⟩ ↔ l = 1 := by
  unfold dead
  simp only
  rw [wr_i64 (by omega) (by omega)]
  constructor <;> intro h <;> omega
theorem gone_e : [(⟨g, l, 0, q, n⟩ : En)].filterMap goneF = if l = 1 then [g] else [] := by
  by_cases h : l = 1
  · rw [if_pos h, List.filterMap_cons_some (b := g) (by unfold goneF; rw [if_pos ((dead_e hl).2 h)])]
    rfl
  · rw [if_neg h, List.filterMap_cons_none (by unfold goneF; rw [if_neg (fun e => h ((dead_e hl).1 e))])]
    rfl
omit hl in
include hq hn in
theorem due_e : due ⟨g, l, 0, q, n⟩ = decide (q = 1 ∧ n = 1) := by
  unfold due
  simp only
  rw [wr_i64 (by omega) (by omega), ← Bool.decide_and]
  refine decide_eq_decide.2 ?_
  omega
include hq hn
theorem send_e : [(⟨g, l, 0, q, n⟩ : En)].filterMap (sendF true) = if l ≠ 1 ∧ q = 1 ∧ n = 1 then [g] else [] := by
  by_cases h : l = 1
  · rw [if_neg (fun e => e.1 h), List.filterMap_cons_none (by unfold sendF; rw [if_pos ((dead_e hl).2 h)])]
    rfl
  · by_cases h2 : q = 1 ∧ n = 1
    · rw [if_pos ⟨h, h2⟩, List.filterMap_cons_some (b := g) (by unfold sendF; rw [if_neg (fun e => h ((dead_e hl).1 e)), due_e hq hn, decide_eq_true h2]; rfl)]
      rfl
    · rw [if_neg (fun e => h2 e.2), List.filterMap_cons_none (by unfold sendF; rw [if_neg (fun e => h ((dead_e hl).1 e)), due_e hq hn, decide_eq_false h2]; rfl)]
      rfl
theorem rest_e : [(⟨g, l, 0, q, n⟩ : En)].filterMap restF = if l = 1 then [] else [⟨g, l - 1, 0, if q = 1 ∧ n = 1 then 0 else q, if q = 1 ∧ n = 1 then 2 else if q = 1 then n - 1 else n⟩] := by
  by_cases h : l = 1
  · rw [if_pos h, List.filterMap_cons_none (by unfold restF; rw [if_pos ((dead_e hl).2 h)])]
    rfl
  · rw [if_neg h, List.filterMap_cons_some (b := tkE ⟨g, l, 0, q, n⟩) (by unfold restF; rw [if_neg (fun e => h ((dead_e hl).1 e))])]
    unfold tkE
    rw [due_e hq hn]
    simp only [mm0]
    rw [wr_i64 (n := l - 1) (by omega) (by omega), wr_i64 (n := n - 1) (by omega) (by omega), wr_i64 (n := q - 1) (by omega) (by omega), List.filterMap_nil]
    by_cases h2 : q = 1 ∧ n = 1
    · simp only [decide_eq_true h2, if_pos h2, if_true]
      congr 2
      omega
    · simp only [decide_eq_false h2, if_neg h2, Bool.false_eq_true, if_false]
      congr 2
      rcases hq with h3 | h3
      · rw [if_neg (by omega), if_neg (by omega)]
      · rw [if_pos (by omega), if_pos h3]
end
def bs (g : Int) : Nat → List En
  | 0 => [⟨g, 4, 0, 1, 2⟩]
  | 1 => [⟨g, 3, 0, 1, 1⟩]
  | 2 => [⟨g, 2, 0, 0, 2⟩]
  | 3 => [⟨g, 1, 0, 0, 2⟩]
  | _ => []
def nx (c : Nat) : Int := if c = 1 then 1 else 2
/-- is it reported by then? -/
def dn (b : Bool) (c k : Nat) : Bool := b && decide (c ≤ k)
def Lv (g : Int) (b : Bool) (c k : Nat) : List En := if dn b c k then [⟨g, 58 - (k - c), 0, 0, nx c⟩] else bs g k
def Tv (g : Int) (b : Bool) (c k : Nat) : List En := if dn b c k then [⟨g, 58 - (k + 1 - c), 0, 0, nx c⟩] else bs g (k + 1)
def Sv (g : Int) (b : Bool) (c k : Nat) : List Int := if !dn b c k && decide (k = 1) then [g] else []
def Gv (g : Int) (b : Bool) (c k : Nat) : List Int := if !dn b c k && decide (k = 3) then [g] else []
theorem nx_in (c : Nat) : 0 ≤ nx c ∧ nx c ≤ 10 := by unfold nx; split <;> omega
theorem dn_le {b : Bool} {c k : Nat} (h : dn b c k = true) : c ≤ k := by unfold dn at h; simp at h; exact h.2
theorem Lv_rest (g : Int) (b : Bool) (c k : Nat) (hk : k < 12) : (Lv g b c k).filterMap restF = Tv g b c k := by
  unfold Lv Tv
  cases h : dn b c k with
  | true =>
    have := dn_le h
    simp only [if_true]
    rw [rest_e (by omega) (.inl rfl) (nx_in c), if_neg (by omega)]
    simp only [show ¬ ((0 : Int) = 1) by decide, false_and, if_false]
    congr 2
    omega
  | false =>
    simp only [Bool.false_eq_true, if_false]
    match k with
    | 0 => show List.filterMap restF [⟨g, 4, 0, 1, 2⟩] = _; rw [rest_e (by decide) (.inr rfl) (by decide)]; rfl
    | 1 => show List.filterMap restF [⟨g, 3, 0, 1, 1⟩] = _; rw [rest_e (by decide) (.inr rfl) (by decide)]; rfl
    | 2 => show List.filterMap restF [⟨g, 2, 0, 0, 2⟩] = _; rw [rest_e (by decide) (.inl rfl) (by decide)]; rfl
    | 3 => show List.filterMap restF [⟨g, 1, 0, 0, 2⟩] = _; rw [rest_e (by decide) (.inl rfl) (by decide)]; rfl
    | k + 4 => rfl
theorem Lv_gone (g : Int) (b : Bool) (c k : Nat) (hk : k < 12) : (Lv g b c k).filterMap goneF = Gv g b c k := by
  unfold Lv Gv
  cases h : dn b c k with
  | true =>
    have := dn_le h
    simp only [if_true]
    rw [gone_e (by omega), if_neg (by omega)]
    rfl
  | false =>
    simp only [Bool.false_eq_true, if_false]
    match k with
    | 0 => show List.filterMap goneF [⟨g, 4, 0, 1, 2⟩] = _; rw [gone_e (by decide)]; rfl
    | 1 => show List.filterMap goneF [⟨g, 3, 0, 1, 1⟩] = _; rw [gone_e (by decide)]; rfl
    | 2 => show List.filterMap goneF [⟨g, 2, 0, 0, 2⟩] = _; rw [gone_e (by decide)]; rfl
    | 3 => show List.filterMap goneF [⟨g, 1, 0, 0, 2⟩] = _; rw [gone_e (by decide)]; rfl
    | k + 4 => simp [bs]
theorem Lv_send (g : Int) (b : Bool) (c k : Nat) (hk : k < 12) : (Lv g b c k).filterMap (sendF true) = Sv g b c k := by
  unfold Lv Sv
  cases h : dn b c k with
  | true =>
    have := dn_le h
    simp only [if_true]
    rw [send_e (by omega) (.inl rfl) (nx_in c), if_neg (by omega)]
    rfl
  | false =>
    simp only [Bool.false_eq_true, if_false]
    match k with
    | 0 => show List.filterMap (sendF true) [⟨g, 4, 0, 1, 2⟩] = _; rw [send_e (by decide) (.inr rfl) (by decide)]; rfl
    | 1 => show List.filterMap (sendF true) [⟨g, 3, 0, 1, 1⟩] = _; rw [send_e (by decide) (.inr rfl) (by decide)]; rfl
    | 2 => show List.filterMap (sendF true) [⟨g, 2, 0, 0, 2⟩] = _; rw [send_e (by decide) (.inl rfl) (by decide)]; rfl
    | 3 => show List.filterMap (sendF true) [⟨g, 1, 0, 0, 2⟩] = _; rw [send_e (by decide) (.inl rfl) (by decide)]; rfl
    | k + 4 => simp [bs]
theorem Tv_next (g : Int) (b : Bool) (c k : Nat) (h : ¬ (b = true ∧ k + 1 = c)) : Tv g b c k = Lv g b c (k + 1) := by
  unfold Tv Lv dn
  cases b with
  | false => rfl
  | true =>
    simp only [true_and] at h
    simp only [Bool.true_and, decide_eq_true_eq]
    by_cases h1 : c ≤ k
    · rw [if_pos h1, if_pos (by omega)]
      congr 2
    · rw [if_neg h1, if_neg (by omega)]
theorem Tv_rep (g : Int) (c k : Nat) (h : k + 1 = c) (hc : c ≤ 3) : rep (Tv g true c k) g false = Lv g true c (k + 1) := by
  subst h
  unfold Tv Lv dn
  simp only [Bool.true_and, decide_eq_true_eq]
  rw [if_neg (by omega), if_pos (Nat.le_refl _)]
  match k, hc with
  | 0, _ => simp [bs, rep, repE, nx]
  | 1, _ => simp [bs, rep, repE, nx]
  | 2, _ => simp [bs, rep, repE, nx]
theorem Tv_srt (g : Int) (b : Bool) (c k : Nat) : Srt (Tv g b c k) := by
  unfold Tv Srt
  split
  · exact List.pairwise_singleton _ _
  · match k with
    | 0 => exact List.pairwise_singleton _ _
    | 1 => exact List.pairwise_singleton _ _
    | 2 => exact List.pairwise_singleton _ _
    | k + 3 => exact .nil
theorem bs_len (g : Int) (k : Nat) : (bs g k).length ≤ 1 := by unfold bs; split <;> simp
theorem Lv_len (g : Int) (b : Bool) (c k : Nat) : (Lv g b c k).length ≤ 1 := by unfold Lv; split; simp; exact bs_len g k
theorem Tv_len (g : Int) (b : Bool) (c k : Nat) : (Tv g b c k).length ≤ 1 := by unfold Tv; split; simp; exact bs_len g (k + 1)
end Go.Proofs.Ytojhnlbfaailcaa.Kt
