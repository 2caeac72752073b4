/- Part of the proofs of this seat's statements: what the functions compute. No condition. -/
import Derived.Test.YtnenbopcoghmaaaC0P
set_option linter.unusedSimpArgs false
set_option linter.unusedVariables false
namespace Go.Proofs.Ytnenbopcoghmaaa.Kt
/-! ### the best one does not hang on the order -/
def lt3 (a b : Int × Int × Int) : Prop := a.1 < b.1 ∨ (a.1 = b.1 ∧ (a.2.1 < b.2.1 ∨ (a.2.1 = b.2.1 ∧ a.2.2 < b.2.2)))
instance (a b : Int × Int × Int) : Decidable (lt3 a b) := by unfold lt3; infer_instance
def key (c : Cd) : Int × Int × Int := (c.prio, c.id, c.addr)
theorem bt_lt (c x : Cd) : bt c x = decide (lt3 (key x) (key c)) := by
  rw [bt_eq]
  unfold lt3 key
  by_cases h1 : c.prio = x.prio
  · rw [if_neg (not_not_intro h1)]
    by_cases h2 : c.id = x.id
    · rw [if_neg (not_not_intro h2)]
      refine decide_eq_decide.2 ?_
      simp only
      omega
    · rw [if_pos h2]
      refine decide_eq_decide.2 ?_
      simp only
      omega
  · rw [if_pos h1]
    refine decide_eq_decide.2 ?_
    simp only
    omega
def kst (p : Cd → Bool) (c : Cd) (m : Option (Int × Int × Int)) : Option (Int × Int × Int) :=
  if c.prio < 1 then m else if p c then (match m with
    | none => some (key c)
    | some x => if lt3 x (key c) then some (key c) else some x) else m
theorem step_key (p : Cd → Bool) (m : Option Cd) (c : Cd) : (step p m c).map key = kst p c (m.map key) := by
  unfold step kst
  split
  · rfl
  · split
    · cases m with
      | none => rfl
      | some x =>
        simp only [Option.map_some, bt_lt, decide_eq_true_eq]
        split <;> rfl
    · rfl
theorem mx_comm (c d : Int × Int × Int) : (if lt3 c d then some d else some c) = if lt3 d c then some c else some d := by
  obtain ⟨c1, c2, c3⟩ := c
  obtain ⟨d1, d2, d3⟩ := d
  by_cases h3 : lt3 (c1, c2, c3) (d1, d2, d3) <;> by_cases h4 : lt3 (d1, d2, d3) (c1, c2, c3) <;> simp only [h3, h4, if_true, if_false, Option.some.injEq, Prod.mk.injEq] <;> unfold lt3 at h3 h4 <;> simp only at h3 h4 <;> omega
theorem mx_comm3 (x c d : Int × Int × Int) : (if lt3 (if lt3 x c then c else x) d then d else (if lt3 x c then c else x)) = if lt3 (if lt3 x d then d else x) c then c else (if lt3 x d then d else x) := by
  obtain ⟨x1, x2, x3⟩ := x
  obtain ⟨c1, c2, c3⟩ := c
  obtain ⟨d1, d2, d3⟩ := d
  by_cases h1 : lt3 (x1, x2, x3) (c1, c2, c3) <;> by_cases h2 : lt3 (x1, x2, x3) (d1, d2, d3) <;> by_cases h3 : lt3 (c1, c2, c3) (d1, d2, d3) <;> by_cases h4 : lt3 (d1, d2, d3) (c1, c2, c3) <;>
    simp only [h1, h2, h3, h4, if_true, if_false, Prod.mk.injEq] <;> unfold lt3 at h1 h2 h3 h4 <;> simp only at h1 h2 h3 h4 <;> omega
theorem kst_comm (p : Cd → Bool) (c d : Cd) (m : Option (Int × Int × Int)) : kst p d (kst p c m) = kst p c (kst p d m) := by
  have nc : ∀ m, c.prio < 1 ∨ p c = false → kst p c m = m := fun m h => by
    unfold kst
    rcases h with h | h
    · rw [if_pos h]
    · split
      · rfl
      · rw [h]; rfl
  have nd : ∀ m, d.prio < 1 ∨ p d = false → kst p d m = m := fun m h => by
    unfold kst
    rcases h with h | h
    · rw [if_pos h]
    · split
      · rfl
      · rw [h]; rfl
  by_cases hc : c.prio < 1 ∨ p c = false
  · rw [nc _ hc, nc _ hc]
  by_cases hd : d.prio < 1 ∨ p d = false
  · rw [nd _ hd, nd _ hd]
  have yc : ∀ m, kst p c m = match m with | none => some (key c) | some x => some (if lt3 x (key c) then key c else x) := fun m => by
    unfold kst
    rw [if_neg (fun h => hc (.inl h)), if_pos (by cases h : p c with | true => rfl | false => exact absurd (.inr h) hc)]
    cases m with
    | none => rfl
    | some x => simp only; split <;> rfl
  have yd : ∀ m, kst p d m = match m with | none => some (key d) | some x => some (if lt3 x (key d) then key d else x) := fun m => by
    unfold kst
    rw [if_neg (fun h => hd (.inl h)), if_pos (by cases h : p d with | true => rfl | false => exact absurd (.inr h) hd)]
    cases m with
    | none => rfl
    | some x => simp only; split <;> rfl
  cases m with
  | none =>
    rw [yc, yd, yd, yc]
    have := mx_comm (key c) (key d)
    simp only
    split <;> split <;> simp_all
  | some x =>
    rw [yc, yd, yd, yc]
    simp only [Option.some.injEq]
    exact mx_comm3 x (key c) (key d)
theorem fold_key (p : Cd → Bool) : ∀ (l : List Cd) (m : Option Cd), (l.foldl (step p) m).map key = l.foldl (fun k c => kst p c k) (m.map key)
  | [], m => rfl
  | c :: l, m => by
    rw [List.foldl_cons, List.foldl_cons, fold_key p l, step_key]
theorem fold_perm (p : Cd → Bool) {l l' : List Cd} (h : l.Perm l') : ∀ k, l.foldl (fun k c => kst p c k) k = l'.foldl (fun k c => kst p c k) k := by
  induction h with
  | nil => intro k; rfl
  | cons x _ ih => intro k; rw [List.foldl_cons, List.foldl_cons, ih]
  | swap x y l => intro k; rw [List.foldl_cons, List.foldl_cons, List.foldl_cons, List.foldl_cons, kst_comm]
  | trans _ _ ih1 ih2 => intro k; rw [ih1, ih2]
theorem bst_perm (p : Cd → Bool) {l l' : List Cd} (h : l.Perm l') : adr (bst p l) = adr (bst p l') := by
  have e := (fold_key p l none).trans ((fold_perm p h _).trans (fold_key p l' none).symm)
  unfold bst
  cases h1 : l.foldl (step p) none with
  | none => cases h2 : l'.foldl (step p) none with
    | none => rfl
    | some y => rw [h1, h2] at e; cases e
  | some x => cases h2 : l'.foldl (step p) none with
    | none => rw [h1, h2] at e; cases e
    | some y =>
      rw [h1, h2] at e
      simp only [Option.map_some, Option.some.injEq, key, Prod.mk.injEq] at e
      exact e.2.2
end Go.Proofs.Ytnenbopcoghmaaa.Kt
