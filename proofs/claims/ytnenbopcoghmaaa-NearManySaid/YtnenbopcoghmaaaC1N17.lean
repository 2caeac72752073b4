/- Part of the proofs of this seat's statements: what the functions compute. No condition. -/
import Derived.Test.YtnenbopcoghmaaaC1N15
set_option linter.unusedSimpArgs false
set_option linter.unusedVariables false
namespace Go.Proofs.Ytnenbopcoghmaaa.Kt
open Go Kw Go.Proofs
attribute [local irreducible] Kw.GI Kw.GR Kw.FnR Kw.FnX
set_option maxHeartbeats 4000000
set_option maxRecDepth 100000
theorem putN_end : ∀ {m : List Nr} {x : Nr}, (∀ y ∈ m, y.id < x.id) → putN m x = m ++ [x]
  | [], x, _ => putN_nil x
  | y :: m, x, h => by
    rw [putN_cons, if_pos (h y (by simp)), putN_end (fun z hz => h z (by simp [hz]))]
    rfl
theorem fold_end : ∀ (l m : List Nr), Srt (m ++ l) → l.foldl putN m = m ++ l
  | [], m, _ => by simp
  | x :: l, m, h => by
    rw [List.foldl_cons]
    have h' := h
    unfold Srt at h'
    rw [List.pairwise_append] at h'
    rw [putN_end (fun y hy => h'.2.2 y hy x (by simp)), fold_end l (m ++ [x]) (by rw [List.append_assoc]; exact h), List.append_assoc]
    rfl
theorem ris_id {l : List Nr} (h : Srt l) : ris l = l := fold_end l [] h
theorem srt_ne {l : List Nr} (h : Srt l) {x y : Nr} (hx : x ∈ l) (hy : y ∈ l) (he : x.id = y.id) : x = y := by
  unfold Srt at h
  induction l with
  | nil => cases hx
  | cons a l ih =>
    rw [List.pairwise_cons] at h
    rcases List.mem_cons.1 hx with e1 | hx1
    · rcases List.mem_cons.1 hy with e2 | hy1
      · rw [e1, e2]
      · have := h.1 y hy1; rw [e1] at he; omega
    · rcases List.mem_cons.1 hy with e2 | hy1
      · have := h.1 x hx1; rw [e2] at he; omega
      · exact ih h.2 hx1 hy1
def mkN (k : Nat) (r : Int) : Nr := ⟨r, 100 + k, k, 0, 0, decide (k % 3 = 0), 16⟩
structure Mn (rs : List Int) (S : Int) (i : Nat) (l : List Nr) : Prop where
  srt : Srt l
  all : ∀ z ∈ l, ∃ k, k < i ∧ rs[k]? = some z.id ∧ z = mkN k z.id ∧ z.id ≠ S ∧ ∀ k', k < k' → k' < i → rs[k']? ≠ some z.id
  has : ∀ (k : Nat) (r : Int), k < i → rs[k]? = some r → r ≠ S → ∃ z ∈ l, z.id = r
  len : l.length ≤ i
theorem Mn.nil (rs : List Int) (S : Int) : Mn rs S 0 [] := ⟨by unfold Srt; exact .nil, fun z h => by (cases h), fun k r h => by omega, Nat.le_refl _⟩
theorem Mn.step {rs : List Int} {S : Int} {i : Nat} {l : List Nr} {r : Int} (h : Mn rs S i l) (hr : rs[i]? = some r) : Mn rs S (i + 1) (if r = S then l else putN l (mkN i r)) := by
  split
  · rename_i e
    refine ⟨h.srt, fun z hz => ?_, fun k r' hk hk' hn => ?_, by have := h.len; omega⟩
    · obtain ⟨k, h1, h2, h3, h4, h5⟩ := h.all z hz
      refine ⟨k, by omega, h2, h3, h4, fun k' h6 h7 => ?_⟩
      rcases Nat.lt_or_ge k' i with h8 | h8
      · exact h5 k' h6 h8
      · have : k' = i := by omega
        subst this
        rw [hr, e]
        intro h9
        simp at h9
        exact h4 h9.symm
    · rcases Nat.lt_or_ge k i with h8 | h8
      · exact h.has k r' h8 hk' hn
      · have : k = i := by omega
        subst this
        rw [hr] at hk'
        simp at hk'
        exact absurd (hk'.symm.trans e) hn
  · rename_i e
    have hs := putN_srt l (mkN i r) h.srt
    refine ⟨hs, fun z hz => ?_, fun k r' hk hk' hn => ?_, by have := h.len; have := putN_length l (mkN i r); omega⟩
    · by_cases hz2 : z.id = r
      · have : z = mkN i r := srt_ne hs hz (putN_new l _) hz2
        subst this
        exact ⟨i, by omega, hr, rfl, e, fun k' h6 h7 => by omega⟩
      · rcases putN_mem l _ z hz with rfl | hz
        · exact absurd rfl hz2
        · obtain ⟨k, h1, h2, h3, h4, h5⟩ := h.all z hz
          refine ⟨k, by omega, h2, h3, h4, fun k' h6 h7 => ?_⟩
          rcases Nat.lt_or_ge k' i with h8 | h8
          · exact h5 k' h6 h8
          · have : k' = i := by omega
            subst this
            rw [hr]
            intro h9
            simp at h9
            exact hz2 h9.symm
    · rcases Nat.lt_or_ge k i with h8 | h8
      · obtain ⟨z, hz, hzr⟩ := h.has k r' h8 hk' hn
        by_cases hz2 : z.id = r
        · exact ⟨mkN i r, putN_new l _, by rw [← hzr, hz2]; rfl⟩
        · exact ⟨z, putN_old l _ z hz hz2, hzr⟩
      · have : k = i := by omega
        subst this
        rw [hr] at hk'
        simp at hk'
        exact ⟨mkN k r, putN_new l _, hk'⟩
/-- the last place of a number among the first so many -/
def la (rs : List Int) (t : Int) : Nat → Int
  | 0 => -1
  | i + 1 => if rs[i]? = some t then i else la rs t i
theorem la_at {rs : List Int} {t : Int} {k : Nat} (hk : rs[k]? = some t) : ∀ {n : Nat}, k < n → (∀ k', k < k' → k' < n → rs[k']? ≠ some t) → la rs t n = k
  | 0, h, _ => by omega
  | n + 1, h, hl => by
    unfold la
    rcases Nat.lt_or_ge k n with h1 | h1
    · rw [if_neg (hl n h1 (by omega))]
      exact la_at hk h1 (fun k' h2 h3 => hl k' h2 (by omega))
    · have : k = n := by omega
      subst this
      rw [if_pos hk]
def cnt (l : List Nr) : Nat := (l.filter Nr.two).length
theorem cnt_st {m : List Nr} {j : Nat} {x : Nr} (h : m[j]? = some x) : cnt (m.take (j + 1)) = cnt (m.take j) + (if x.two then 1 else 0) := by
  rw [take_st h]
  unfold cnt
  rw [List.filter_append, List.length_append]
  cases hs : x.two <;> simp [hs]
theorem cnt_le (l : List Nr) : cnt l ≤ l.length := List.length_filter_le _ _
theorem hear_mn {l : List Nr} (h : Srt l) (p : Pk) (i : Nat) (S : Int) (h1 : p.kind = 1) (h2 : p.prio = i) (h3 : p.dr = 0) (h4 : p.bdr = 0) (h5 : p.seen.contains S = decide (i % 3 = 0)) : hearL l p (100 + i) S = if p.router = S then l else putN l (mkN i p.router) := by
  unfold hearL
  rw [ris_id h, h2, h3, h4, h5]
  by_cases e : p.router = S
  · rw [if_pos (.inr e), if_pos e]
  · rw [if_neg (by rintro (h | h); exact h h1; exact e h), if_neg e]
    rfl
end Go.Proofs.Ytnenbopcoghmaaa.Kt
