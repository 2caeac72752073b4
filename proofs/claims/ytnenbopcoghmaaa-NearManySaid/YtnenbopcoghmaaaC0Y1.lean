/- Part of the proofs of this seat's statements: what the functions compute. No condition. -/
import Derived.Test.YtnenbopcoghmaaaC0W7
set_option linter.unusedSimpArgs false
set_option linter.unusedVariables false
namespace Go.Proofs.Ytnenbopcoghmaaa.Kt
open Go Kw Go.Proofs
set_option maxHeartbeats 4000000
set_option maxRecDepth 100000
/-! ### routers by numbers -/
def st (P : List Int) (d e : Int → Int) : List Cd := P.mapIdx fun i p => ⟨1 + i, 11 + i, p, d (11 + i), e (11 + i)⟩
theorem st_get (P : List Int) (d e : Int → Int) (j : Nat) : (st P d e)[j]? = (P[j]?).map fun p => ⟨1 + j, 11 + j, p, d (11 + j), e (11 + j)⟩ := by
  unfold st
  rw [List.getElem?_mapIdx]
theorem st_length (P : List Int) (d e : Int → Int) : (st P d e).length = P.length := by simp [st]
theorem st_mem {P : List Int} {d e : Int → Int} {c : Cd} (h : c ∈ st P d e) : ∃ (j : Nat) (p : Int), P[j]? = some p ∧ c = ⟨1 + j, 11 + j, p, d (11 + j), e (11 + j)⟩ := by
  obtain ⟨j, hj⟩ := List.mem_iff_getElem?.1 h
  rw [st_get] at hj
  cases hp : P[j]? with
  | none => rw [hp] at hj; cases hj
  | some p => rw [hp] at hj; simp at hj; exact ⟨j, p, hp, hj.symm⟩
theorem st_ext {P : List Int} {d e d' e' : Int → Int} (h : ∀ j : Nat, j < P.length → d (11 + j) = d' (11 + j) ∧ e (11 + j) = e' (11 + j)) : st P d e = st P d' e' := by
  apply List.ext_getElem?
  intro j
  rw [st_get, st_get]
  cases hp : P[j]? with
  | none => rfl
  | some p =>
    obtain ⟨h1, h2⟩ := h j (List.getElem?_eq_some_iff.1 hp).1
    simp [h1, h2]
def at1 (x v : Int) (d : Int → Int) : Int → Int := fun a => if a = x then v else d a
theorem st_set {P : List Int} {d e : Int → Int} {k : Nat} {c : Cd} (x y : Int) (h : (st P d e)[k]? = some c) : (st P d e).set k ⟨c.id, c.addr, c.prio, x, y⟩ = st P (at1 (11 + k) x d) (at1 (11 + k) y e) := by
  apply List.ext_getElem?
  intro j
  have hk : k < P.length := by have := (List.getElem?_eq_some_iff.1 h).1; rwa [st_length] at this
  rw [st_get] at h
  obtain ⟨p, hp⟩ : ∃ p, P[k]? = some p := ⟨_, List.getElem?_eq_getElem hk⟩
  rw [hp] at h
  simp at h
  subst h
  rw [List.getElem?_set, st_get, st_get]
  by_cases hj : k = j
  · subst hj
    rw [if_pos rfl, if_pos (by rw [st_length]; exact hk), hp]
    simp [at1]
  · rw [if_neg hj]
    have : ¬ ((11 : Int) + j = 11 + k) := by omega
    simp [at1, this]
theorem foldl_same {α β : Type} {f g : α → β → α} : ∀ {l : List β} {a : α}, (∀ a, ∀ b ∈ l, f a b = g a b) → l.foldl f a = l.foldl g a
  | [], _, _ => rfl
  | x :: l, a, h => by rw [List.foldl_cons, List.foldl_cons, h a x (by simp)]; exact foldl_same (fun a b hb => h a b (by simp [hb]))
theorem step_as {p q : Cd → Bool} {f : Cd → Cd} (hf : ∀ c, (f c).id = c.id ∧ (f c).addr = c.addr ∧ (f c).prio = c.prio) {c : Cd} (h : p (f c) = q c) (m : Option Cd) : step p (m.map f) (f c) = (step q m c).map f := by
  unfold step
  rw [(hf c).2.2, h]
  split
  · rfl
  split
  · cases m with
    | none => rfl
    | some x =>
      have : bt (f c) (f x) = bt c x := by rw [bt_eq, bt_eq, (hf c).1, (hf c).2.1, (hf c).2.2, (hf x).1, (hf x).2.1, (hf x).2.2]
      simp only [Option.map_some, this]
      split <;> rfl
  · rfl
theorem fold_as {p q : Cd → Bool} {f : Cd → Cd} (hf : ∀ c, (f c).id = c.id ∧ (f c).addr = c.addr ∧ (f c).prio = c.prio) : ∀ {l : List Cd} {m : Option Cd}, (∀ c ∈ l, p (f c) = q c) → (l.map f).foldl (step p) (m.map f) = (l.foldl (step q) m).map f
  | [], _, _ => rfl
  | c :: l, m, h => by
    rw [List.map_cons, List.foldl_cons, List.foldl_cons, step_as hf (h c (by simp))]
    exact fold_as hf (fun c hc => h c (by simp [hc]))
def s0 (P : List Int) : List Cd := st P (fun _ => 0) (fun _ => 0)
def Bq (P : List Int) (q : Int → Bool) : Int := adr (bst (fun c => q c.addr) (s0 P))
def Eq' (P : List Int) (q : Int → Bool) : Bool := elig (fun c => q c.addr) (s0 P)
theorem st_map (P : List Int) (d e : Int → Int) : st P d e = (s0 P).map fun c => ⟨c.id, c.addr, c.prio, d c.addr, e c.addr⟩ := by
  apply List.ext_getElem?
  intro j
  unfold s0
  rw [List.getElem?_map, st_get, st_get]
  cases P[j]? <;> rfl
theorem adr_map {f : Cd → Cd} (hf : ∀ c, (f c).addr = c.addr) (m : Option Cd) : adr (m.map f) = adr m := by cases m with | none => rfl | some c => exact hf c
theorem bst_st {P : List Int} {d e : Int → Int} {p : Cd → Bool} {q : Int → Bool} (h : ∀ c ∈ st P d e, p c = q c.addr) : adr (bst p (st P d e)) = Bq P q := by
  rw [st_map] at h ⊢
  unfold bst
  have := fold_as (p := p) (q := fun c => q c.addr) (f := fun c => ⟨c.id, c.addr, c.prio, d c.addr, e c.addr⟩) (fun c => ⟨rfl, rfl, rfl⟩) (l := s0 P) (m := none) (fun c hc => h _ (List.mem_map_of_mem hc))
  rw [show (none : Option Cd) = Option.map (fun c : Cd => (⟨c.id, c.addr, c.prio, d c.addr, e c.addr⟩ : Cd)) none from rfl, this]
  exact adr_map (f := fun c : Cd => ⟨c.id, c.addr, c.prio, d c.addr, e c.addr⟩) (fun c => rfl) _
theorem elig_st {P : List Int} {d e : Int → Int} {p : Cd → Bool} {q : Int → Bool} (h : ∀ c ∈ st P d e, p c = q c.addr) : elig p (st P d e) = Eq' P q := by
  rw [st_map] at h ⊢
  unfold Eq' elig
  rw [List.any_map]
  have : ∀ (l : List Cd), (∀ c ∈ l, p ⟨c.id, c.addr, c.prio, d c.addr, e c.addr⟩ = q c.addr) → l.any ((fun c => decide (0 < c.prio) && p c) ∘ fun c => ⟨c.id, c.addr, c.prio, d c.addr, e c.addr⟩) = l.any fun c => decide (0 < c.prio) && q c.addr := by
    intro l
    induction l with
    | nil => intro _; rfl
    | cons c l ih =>
      intro hl
      rw [List.any_cons, List.any_cons, ih (fun c hc => hl c (by simp [hc]))]
      have := hl c (by simp)
      simp only [Function.comp, this]
  exact this _ (fun c hc => h _ (List.mem_map_of_mem hc))
theorem rnd_st (P : List Int) (d e : Int → Int) (qd qb qo : Int → Bool) (h1 : ∀ j : Nat, j < P.length → qd (11 + j) = decide (d (11 + j) = 11 + j)) (h2 : ∀ j : Nat, j < P.length → qb (11 + j) = (decide (d (11 + j) ≠ 11 + j) && decide (e (11 + j) = 11 + j))) (h3 : ∀ j : Nat, j < P.length → qo (11 + j) = decide (d (11 + j) ≠ 11 + j)) :
    rnd (st P d e) = (if Eq' P qd then Bq P qd else if Eq' P qb then Bq P qb else Bq P qo, if Eq' P qb then Bq P qb else Bq P qo) := by
  have k1 : ∀ c ∈ st P d e, fDes c = qd c.addr := fun c hc => by
    obtain ⟨j, p, hp, rfl⟩ := st_mem hc
    exact (h1 j (List.getElem?_eq_some_iff.1 hp).1).symm
  have k2 : ∀ c ∈ st P d e, fBak c = qb c.addr := fun c hc => by
    obtain ⟨j, p, hp, rfl⟩ := st_mem hc
    exact (h2 j (List.getElem?_eq_some_iff.1 hp).1).symm
  have k3 : ∀ c ∈ st P d e, fOth c = qo c.addr := fun c hc => by
    obtain ⟨j, p, hp, rfl⟩ := st_mem hc
    exact (h3 j (List.getElem?_eq_some_iff.1 hp).1).symm
  unfold rnd
  rw [bst_st k1, bst_st k2, bst_st k3, elig_st k1, elig_st k2]
/-- The best one is one of them that may be. -/
theorem bst_some {p : Cd → Bool} : ∀ {l : List Cd} {m : Option Cd}, (∀ x, m = some x → 0 < x.prio ∧ p x = true) → (∀ x, l.foldl (step p) m = some x → (x ∈ l ∨ m = some x) ∧ 0 < x.prio ∧ p x = true)
  | [], m, hm, x, hx => ⟨.inr hx, hm x hx⟩
  | c :: l, m, hm, x, hx => by
    rw [List.foldl_cons] at hx
    have hs : ∀ y, step p m c = some y → (y = c ∨ m = some y) ∧ 0 < y.prio ∧ p y = true := by
      intro y hy
      unfold step at hy
      split at hy
      · exact ⟨.inr hy, hm y hy⟩
      · split at hy
        · rename_i h1 h2
          cases m with
          | none => simp at hy; subst hy; exact ⟨.inl rfl, by omega, h2⟩
          | some z =>
            simp only at hy
            split at hy
            · simp at hy; subst hy; exact ⟨.inl rfl, by omega, h2⟩
            · exact ⟨.inr hy, hm y hy⟩
        · exact ⟨.inr hy, hm y hy⟩
    obtain ⟨h1, h2⟩ := bst_some (l := l) (m := step p m c) (fun y hy => (hs y hy).2) x hx
    refine ⟨?_, h2⟩
    rcases h1 with h1 | h1
    · exact .inl (by simp [h1])
    · rcases (hs x h1).1 with rfl | h
      · exact .inl (by simp)
      · exact .inr h
theorem step_none {p : Cd → Bool} {m : Option Cd} {c : Cd} (h : step p m c = none) : m = none ∧ (decide (0 < c.prio) && p c) = false := by
  unfold step at h
  split at h
  · exact ⟨h, by simp; omega⟩
  · split at h
    · cases m with
      | none => cases h
      | some z => simp only at h; split at h <;> cases h
    · rename_i h2
      exact ⟨h, by simp [h2]⟩
theorem bst_none {p : Cd → Bool} : ∀ {l : List Cd} {m : Option Cd}, l.foldl (step p) m = none → m = none ∧ (l.any fun c => decide (0 < c.prio) && p c) = false
  | [], m, h => ⟨h, rfl⟩
  | c :: l, m, h => by
    rw [List.foldl_cons] at h
    obtain ⟨h1, h2⟩ := bst_none (l := l) h
    obtain ⟨h3, h4⟩ := step_none h1
    exact ⟨h3, by rw [List.any_cons, h4, h2]; rfl⟩
theorem Bq_in {P : List Int} {q : Int → Bool} (h : Eq' P q = true) : q (Bq P q) = true ∧ ∃ j : Nat, j < P.length ∧ Bq P q = 11 + j ∧ ∀ q', q' (Bq P q) = true → Eq' P q' = true := by
  unfold Bq
  cases hb : bst (fun c => q c.addr) (s0 P) with
  | none =>
    have := (bst_none hb).2
    unfold Eq' elig at h
    rw [this] at h
    cases h
  | some x =>
    obtain ⟨h1, h2, h3⟩ := bst_some (l := s0 P) (m := none) (fun _ h => by cases h) x hb
    refine ⟨h3, ?_⟩
    have hx : x ∈ s0 P := by rcases h1 with h1 | h1; exact h1; cases h1
    obtain ⟨j, p, hp, rfl⟩ := st_mem hx
    refine ⟨j, (List.getElem?_eq_some_iff.1 hp).1, rfl, fun q' hq' => ?_⟩
    unfold Eq' elig
    rw [List.any_eq_true]
    exact ⟨_, hx, by simp only [Bool.and_eq_true, decide_eq_true_eq]; exact ⟨h2, hq'⟩⟩
theorem Bq_out {P : List Int} {q : Int → Bool} (h : Eq' P q = false) : Bq P q = 0 := by
  unfold Bq
  cases hb : bst (fun c => q c.addr) (s0 P) with
  | none => rfl
  | some x =>
    obtain ⟨h1, h2, h3⟩ := bst_some (l := s0 P) (m := none) (fun _ h => by cases h) x hb
    have hx : x ∈ s0 P := by rcases h1 with h1 | h1; exact h1; cases h1
    unfold Eq' elig at h
    rw [List.any_eq_false] at h
    exact absurd (by simp only [Bool.and_eq_true, decide_eq_true_eq]; exact ⟨h2, h3⟩) (h x hx)
theorem Eq_mono {P : List Int} {q q' : Int → Bool} (h : ∀ j : Nat, q (11 + j) = true → q' (11 + j) = true) (hq : Eq' P q = true) : Eq' P q' = true := by
  obtain ⟨h1, j, h2, h3, h4⟩ := Bq_in hq
  exact h4 q' (by rw [h3] at h1 ⊢; exact h j h1)
theorem elec_set {l : List Cd} {k : Nat} {c : Cd} (h : l[k]? = some c) : elec c (l.eraseIdx k) = if turned c (rnd l) then rnd (l.set k (upd (rnd l) c)) else rnd l := by
  have hk := (List.getElem?_eq_some_iff.1 h).1
  have e1 : l.eraseIdx k = l.take k ++ l.drop (k + 1) := List.eraseIdx_eq_take_drop_succ ..
  have e2 : ∀ u : Cd, (u :: l.eraseIdx k).Perm (l.set k u) := fun u => by
    rw [e1, List.set_eq_take_append_cons_drop, if_pos hk]
    exact List.perm_middle.symm
  have e3 : l.set k c = l := by
    apply List.ext_getElem?
    intro j
    rw [List.getElem?_set]
    split
    · rename_i hj; subst hj; rw [h]
    · rfl
  unfold elec
  rw [rnd_perm (e2 c), e3, rnd_perm (e2 (upd (rnd l) c))]
theorem elec_st {P : List Int} {d e : Int → Int} {k : Nat} {c : Cd} (h : (st P d e)[k]? = some c) : elec c ((st P d e).eraseIdx k) = if turned c (rnd (st P d e)) then rnd (st P (at1 (11 + k) (rnd (st P d e)).1 d) (at1 (11 + k) (rnd (st P d e)).2 e)) else rnd (st P d e) := by
  rw [elec_set h]
  unfold upd
  rw [st_set _ _ h]
end Go.Proofs.Ytnenbopcoghmaaa.Kt
