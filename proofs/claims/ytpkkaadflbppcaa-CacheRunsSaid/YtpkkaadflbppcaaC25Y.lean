/- Part of the proofs of this seat's statements: what the functions compute. No condition. -/
import Derived.Test.YtpkkaadflbppcaaC25Xc
set_option linter.unusedSimpArgs false
set_option linter.unusedVariables false
namespace Go.Proofs.Ytpkkaadflbppcaa.Kt
open Go Kw Go.Proofs
attribute [local irreducible] Kw.GI Kw.GR Kw.FnR Kw.FnX
set_option maxHeartbeats 8000000
set_option maxRecDepth 100000
instance (a b : En) : Decidable (a.lt b) := by unfold En.lt klt; infer_instance
theorem before_ok (x y : En) : FnR Try.prog 35 [x.av, y.av] (RB (decide (x.lt y))) := by
  refine fnR_intro (T := TT) (n := 30) Try.func35 rfl rfl rfl (fun w Z => ?_)
  (repeat (first | (refine r_end ?_) | (refine r_op ?_; first | refine r_pure hT rfl rfl rfl rfl rfl rfl ?_ | refine r_load hT rfl rfl rfl rfl rfl rfl rfl rfl rfl ?_ | refine r_box rfl rfl rfl rfl rfl rfl rfl rfl rfl ?_ | refine r_store hT rfl rfl rfl rfl rfl rfl rfl rfl rfl rfl ?_ | refine r_off rfl rfl rfl rfl rfl ?_ | refine r_alloc hT rfl rfl rfl rfl rfl rfl rfl rfl rfl ?_ | refine r_lit hT rfl rfl rfl rfl rfl rfl rfl rfl rfl rfl rfl rfl rfl ?_ | refine r_off0 rfl rfl rfl rfl ?_ | refine r_storeO hT rfl rfl rfl rfl rfl rfl rfl rfl rfl rfl rfl ?_) | (refine gi_seq ?_) | (refine gi_plain ?_) | (refine gi_skip ?_) | (refine gi_block ?_) | (refine gi_inBlock ?_) | (refine gi_exit rfl ?_) | (refine gi_cnd ?_; first | refine gi_true rfl ?_ | refine gi_false rfl ?_) | (refine gi_label ?_)))
  refine gi_ne rfl (fun h1 => ?_) (fun h1 => ?_)
  · (repeat (first | (refine r_end ?_) | (refine r_op ?_; first | refine r_pure hT rfl rfl rfl rfl rfl rfl ?_ | refine r_load hT rfl rfl rfl rfl rfl rfl rfl rfl rfl ?_ | refine r_box rfl rfl rfl rfl rfl rfl rfl rfl rfl ?_ | refine r_store hT rfl rfl rfl rfl rfl rfl rfl rfl rfl rfl ?_ | refine r_off rfl rfl rfl rfl rfl ?_ | refine r_alloc hT rfl rfl rfl rfl rfl rfl rfl rfl rfl ?_ | refine r_lit hT rfl rfl rfl rfl rfl rfl rfl rfl rfl rfl rfl rfl rfl ?_ | refine r_off0 rfl rfl rfl rfl ?_ | refine r_storeO hT rfl rfl rfl rfl rfl rfl rfl rfl rfl rfl rfl ?_) | (refine gi_seq ?_) | (refine gi_plain ?_) | (refine gi_skip ?_) | (refine gi_block ?_) | (refine gi_inBlock ?_) | (refine gi_exit rfl ?_) | (refine gi_cnd ?_; first | refine gi_true rfl ?_ | refine gi_false rfl ?_) | (refine gi_label ?_)))
    refine gi_retW hT Try.func35 rfl rfl [] rfl rfl rfl rfl ?_
    refine ⟨?_, rfl⟩
    rw [ltB_eq]
    exact congrArg Bo (decide_eq_decide.2 (by unfold En.lt klt; omega))
  · (repeat (first | (refine r_end ?_) | (refine r_op ?_; first | refine r_pure hT rfl rfl rfl rfl rfl rfl ?_ | refine r_load hT rfl rfl rfl rfl rfl rfl rfl rfl rfl ?_ | refine r_box rfl rfl rfl rfl rfl rfl rfl rfl rfl ?_ | refine r_store hT rfl rfl rfl rfl rfl rfl rfl rfl rfl rfl ?_ | refine r_off rfl rfl rfl rfl rfl ?_ | refine r_alloc hT rfl rfl rfl rfl rfl rfl rfl rfl rfl ?_ | refine r_lit hT rfl rfl rfl rfl rfl rfl rfl rfl rfl rfl rfl rfl rfl ?_ | refine r_off0 rfl rfl rfl rfl ?_ | refine r_storeO hT rfl rfl rfl rfl rfl rfl rfl rfl rfl rfl rfl ?_) | (refine gi_seq ?_) | (refine gi_plain ?_) | (refine gi_skip ?_) | (refine gi_block ?_) | (refine gi_inBlock ?_) | (refine gi_exit rfl ?_) | (refine gi_cnd ?_; first | refine gi_true rfl ?_ | refine gi_false rfl ?_) | (refine gi_label ?_)))
    refine gi_ne rfl (fun h2 => ?_) (fun h2 => ?_)
    · (repeat (first | (refine r_end ?_) | (refine r_op ?_; first | refine r_pure hT rfl rfl rfl rfl rfl rfl ?_ | refine r_load hT rfl rfl rfl rfl rfl rfl rfl rfl rfl ?_ | refine r_box rfl rfl rfl rfl rfl rfl rfl rfl rfl ?_ | refine r_store hT rfl rfl rfl rfl rfl rfl rfl rfl rfl rfl ?_ | refine r_off rfl rfl rfl rfl rfl ?_ | refine r_alloc hT rfl rfl rfl rfl rfl rfl rfl rfl rfl ?_ | refine r_lit hT rfl rfl rfl rfl rfl rfl rfl rfl rfl rfl rfl rfl rfl ?_ | refine r_off0 rfl rfl rfl rfl ?_ | refine r_storeO hT rfl rfl rfl rfl rfl rfl rfl rfl rfl rfl rfl ?_) | (refine gi_seq ?_) | (refine gi_plain ?_) | (refine gi_skip ?_) | (refine gi_block ?_) | (refine gi_inBlock ?_) | (refine gi_exit rfl ?_) | (refine gi_cnd ?_; first | refine gi_true rfl ?_ | refine gi_false rfl ?_) | (refine gi_label ?_)))
      refine gi_retW hT Try.func35 rfl rfl [] rfl rfl rfl rfl ?_
      refine ⟨?_, rfl⟩
      rw [ltB_eq]
      exact congrArg Bo (decide_eq_decide.2 (by unfold En.lt klt; omega))
    · (repeat (first | (refine r_end ?_) | (refine r_op ?_; first | refine r_pure hT rfl rfl rfl rfl rfl rfl ?_ | refine r_load hT rfl rfl rfl rfl rfl rfl rfl rfl rfl ?_ | refine r_box rfl rfl rfl rfl rfl rfl rfl rfl rfl ?_ | refine r_store hT rfl rfl rfl rfl rfl rfl rfl rfl rfl rfl ?_ | refine r_off rfl rfl rfl rfl rfl ?_ | refine r_alloc hT rfl rfl rfl rfl rfl rfl rfl rfl rfl ?_ | refine r_lit hT rfl rfl rfl rfl rfl rfl rfl rfl rfl rfl rfl rfl rfl ?_ | refine r_off0 rfl rfl rfl rfl ?_ | refine r_storeO hT rfl rfl rfl rfl rfl rfl rfl rfl rfl rfl rfl ?_) | (refine gi_seq ?_) | (refine gi_plain ?_) | (refine gi_skip ?_) | (refine gi_block ?_) | (refine gi_inBlock ?_) | (refine gi_exit rfl ?_) | (refine gi_cnd ?_; first | refine gi_true rfl ?_ | refine gi_false rfl ?_) | (refine gi_label ?_)))
      refine gi_retW hT Try.func35 rfl rfl [] rfl rfl rfl rfl ?_
      refine ⟨?_, rfl⟩
      rw [ltB_eq]
      exact congrArg Bo (decide_eq_decide.2 (by unfold En.lt klt; omega))
theorem Srt_ins {o : List En} {x : En} {a : Nat} (h : Srt o) (hal : a ≤ o.length) (h1 : ∀ t, t < a → ∀ e, o[t]? = some e → e.lt x) (h2 : ∀ e, o[a]? = some e → ¬ e.lt x) : Srt (o.take a ++ x :: o.drop a) := by
  have key : ∀ t e, a ≤ t → o[t]? = some e → ¬ e.lt x := fun t e hat he => by
    rcases Nat.lt_or_eq_of_le hat with hlt | rfl
    · have htl := (List.getElem?_eq_some_iff.1 he).1
      obtain ⟨f, hf⟩ : ∃ f, o[a]? = some f := ⟨_, List.getElem?_eq_getElem (by omega)⟩
      have n1 := h a t f e hlt hf he
      have n2 := h2 f hf
      unfold En.lt klt at *
      omega
    · exact h2 e he
  have get : ∀ t, (o.take a ++ x :: o.drop a)[t]? = if t < a then o[t]? else if t = a then some x else o[t - 1]? := fun t => by
    rw [List.getElem?_append, List.length_take, Nat.min_eq_left hal]
    split
    · rw [List.getElem?_take, if_pos (by assumption)]
    · rename_i hta
      split
      · rename_i hte; subst hte; simp
      · rename_i hne
        obtain ⟨k, hk⟩ : ∃ k, t - a = k + 1 := ⟨t - a - 1, by omega⟩
        rw [hk, List.getElem?_cons_succ, List.getElem?_drop]
        congr 1
        omega
  intro i j p q hij hp hq
  rw [get] at hp hq
  split at hp
  · rename_i hia
    split at hq
    · exact h i j p q hij hp hq
    · split at hq
      · cases hq
        have := h1 i hia p hp
        unfold En.lt klt at *
        omega
      · exact h i (j - 1) p q (by omega) hp hq
  · split at hp
    · cases hp
      rename_i hia hie
      rw [if_neg (by omega), if_neg (by omega)] at hq
      exact key (j - 1) q (by omega) hq
    · rw [if_neg (by omega), if_neg (by omega)] at hq
      exact h (i - 1) (j - 1) p q (by omega) hp hq
theorem perm_ins {o : List En} {x : En} {a : Nat} {l : List En} (h : o.Perm l) : (o.take a ++ x :: o.drop a).Perm (l ++ [x]) := by
  refine List.perm_middle.trans ?_
  rw [List.take_append_drop]
  exact (h.cons x).trans (List.perm_append_comm (l₁ := [x]) (l₂ := l))
theorem sh0 {α : Type} (R : List α) (z : α) : (R ++ [z]).take (R.length + 1) ++ R.drop R.length = R ++ [z] := by rw [List.take_of_length_le (by simp)]; simp
theorem sh_get1 {α : Type} {R : List α} {z : α} {k : Nat} (hk : k < R.length) : ((R ++ [z]).take (k + 1 + 1) ++ R.drop (k + 1))[k]? = R[k]? := by
  rw [List.getElem?_append_left (by simp; omega), List.getElem?_take, if_pos (by omega), List.getElem?_append_left hk]
theorem sh_step {α : Type} {R : List α} {z y : α} {k : Nat} (hy : R[k]? = some y) : ((R ++ [z]).take (k + 1 + 1) ++ R.drop (k + 1)).set (k + 1) y = (R ++ [z]).take (k + 1) ++ R.drop k := by
  have hk := (List.getElem?_eq_some_iff.1 hy).1
  have hd : R.drop k = y :: R.drop (k + 1) := by
    rw [List.drop_eq_getElem_cons hk, (List.getElem?_eq_some_iff.1 hy).2]
  rw [List.set_append_left _ _ (by simp; omega), hd]
  obtain ⟨w, hw⟩ : ∃ w, (R ++ [z])[k + 1]? = some w := ⟨_, List.getElem?_eq_getElem (by simp; omega)⟩
  rw [take_snoc hw, List.set_append_right _ _ (by simp; omega)]
  simp only [List.length_take, List.length_append, List.length_singleton]
  rw [show k + 1 - min (k + 1) (R.length + 1) = 0 by omega]
  simp
theorem sh_end {α : Type} {R : List α} {z y : α} {a : Nat} (ha : a ≤ R.length) : ((R ++ [z]).take (a + 1) ++ R.drop a).set a y = R.take a ++ y :: R.drop a := by
  obtain ⟨w, hw⟩ : ∃ w, (R ++ [z])[a]? = some w := ⟨_, List.getElem?_eq_getElem (by simp; omega)⟩
  rw [take_snoc hw, List.append_assoc, List.set_append_right _ _ (by simp; omega)]
  rw [List.length_take, List.length_append, List.length_singleton, show a - min a (R.length + 1) = 0 by omega, List.take_append_of_le_length ha]
  rfl
end Go.Proofs.Ytpkkaadflbppcaa.Kt
