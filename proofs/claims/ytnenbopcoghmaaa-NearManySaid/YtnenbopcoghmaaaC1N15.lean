/- Part of the proofs of this seat's statements: what the functions compute. No condition. -/
import Derived.Test.YtnenbopcoghmaaaC1N14
set_option linter.unusedSimpArgs false
set_option linter.unusedVariables false
namespace Go.Proofs.Ytnenbopcoghmaaa.Kt
open Go Kw Go.Proofs
attribute [local irreducible] Kw.GI Kw.GR Kw.FnR Kw.FnX
set_option maxHeartbeats 4000000
set_option maxRecDepth 100000
/-! ### the best one, told by what it beats -/
theorem bst_top {p : Cd → Bool} {x : Cd} (hx : ¬ x.prio < 1) (hp : p x = true) : ∀ {l : List Cd} {m : Option Cd}, (∀ y, m = some y → y = x ∨ (bt x y = true ∧ bt y x = false)) → (∀ y ∈ l, y = x ∨ (bt x y = true ∧ bt y x = false)) → (x ∈ l ∨ m = some x) → l.foldl (step p) m = some x
  | [], m, _, _, h => by rcases h with h | h; cases h; exact h
  | c :: l, m, hm, hl, h => by
    rw [List.foldl_cons]
    have hc := hl c (by simp)
    have key : (∀ y, step p m c = some y → y = x ∨ (bt x y = true ∧ bt y x = false)) ∧ (c = x ∨ m = some x → step p m c = some x) := by
      unfold step
      split
      · rename_i h1
        refine ⟨hm, ?_⟩
        rintro (rfl | h)
        · exact absurd h1 hx
        · exact h
      · split
        · cases m with
          | none =>
            refine ⟨fun y hy => ?_, ?_⟩
            · simp at hy; subst hy; exact hc
            · rintro (rfl | h)
              · rfl
              · cases h
          | some z =>
            have hz := hm z rfl
            simp only
            refine ⟨fun y hy => ?_, ?_⟩
            · split at hy
              · simp at hy; subst hy; exact hc
              · exact hm y hy
            · rintro (rfl | h)
              · rcases hz with rfl | ⟨h1, h2⟩
                · split <;> rfl
                · rw [if_pos h1]
              · simp at h
                subst h
                rcases hc with rfl | ⟨h1, h2⟩
                · split <;> rfl
                · rw [h2]; rfl
        · rename_i h1 h2
          refine ⟨hm, ?_⟩
          rintro (rfl | h)
          · exact absurd hp h2
          · exact h
    refine bst_top hx hp key.1 (fun y hy => hl y (by simp [hy])) ?_
    rcases h with h | h
    · rcases List.mem_cons.1 h with rfl | h
      · exact .inr (key.2 (.inl rfl))
      · exact .inl h
    · exact .inr (key.2 (.inr h))
/-! ### who is in -/
theorem putN_new : ∀ (l : List Nr) (x : Nr), x ∈ putN l x
  | [], x => by rw [putN_nil]; simp
  | y :: l, x => by
    rw [putN_cons]
    split
    · exact List.mem_cons_of_mem _ (putN_new l x)
    · split <;> simp
theorem putN_old : ∀ (l : List Nr) (x z : Nr), z ∈ l → z.id ≠ x.id → z ∈ putN l x
  | [], x, z, h, _ => by cases h
  | y :: l, x, z, h, hn => by
    rw [putN_cons]
    rcases List.mem_cons.1 h with rfl | h
    · split
      · simp
      · first | (rw [if_neg hn]; simp; done) | simp
    · split
      · exact List.mem_cons_of_mem _ (putN_old l x z h hn)
      · split
        · exact List.mem_cons_of_mem _ h
        · simp [h]
theorem fold_old : ∀ (l m : List Nr) (z : Nr), z ∈ m → (∀ y ∈ l, y.id ≠ z.id) → z ∈ l.foldl putN m
  | [], m, z, h, _ => h
  | x :: l, m, z, h, hl => by
    rw [List.foldl_cons]
    exact fold_old l _ z (putN_old m x z h (Ne.symm (hl x (by simp)))) (fun y hy => hl y (by simp [hy]))
theorem fold_mem : ∀ (l m : List Nr) (z : Nr), z ∈ l.foldl putN m → z ∈ m ∨ z ∈ l
  | [], m, z, h => .inl h
  | x :: l, m, z, h => by
    rw [List.foldl_cons] at h
    rcases fold_mem l _ z h with h | h
    · rcases putN_mem m x z h with rfl | h
      · exact .inr (by simp)
      · exact .inl h
    · exact .inr (by simp [h])
theorem fold_new : ∀ (l m : List Nr) (z : Nr), z ∈ l → l.Pairwise (fun a b => a.id ≠ b.id) → z ∈ l.foldl putN m
  | [], m, z, h, _ => by cases h
  | x :: l, m, z, h, hp => by
    rw [List.pairwise_cons] at hp
    rw [List.foldl_cons]
    rcases List.mem_cons.1 h with rfl | h
    · exact fold_old l _ z (putN_new m z) (fun y hy => Ne.symm (hp.1 y hy))
    · exact fold_new l _ z h hp.2
theorem ris_iff {l : List Nr} (hp : l.Pairwise fun a b => a.id ≠ b.id) (z : Nr) : z ∈ ris l ↔ z ∈ l :=
  ⟨fun h => by rcases fold_mem l [] z h with h | h; cases h; exact h, fun h => fold_new l [] z h hp⟩
/-- what the loop makes -/
structure Bk (l : List Nr) (best at_ : Int) : Prop where
  all : ∀ z ∈ l, z.prio = 1 ∧ z.two = true ∧ z.dr = 60 ∧ z.bdr = 50 ∧ 200 ≤ z.addr ∧ 100 ≤ z.id
  ids : l.Pairwise fun a b => a.id ≠ b.id
  top : (l = [] ∧ best = 0 ∧ at_ = 0) ∨ ∃ x ∈ l, x.id = best ∧ x.addr = at_ ∧ ∀ z ∈ l, z = x ∨ z.id < x.id
theorem Bk.nil : Bk [] 0 0 := ⟨fun z h => by (cases h), .nil, .inl ⟨rfl, rfl, rfl⟩⟩
def bkN (id a : Int) : Nr := ⟨id, a, 1, 60, 50, true, 0⟩
theorem Bk.add {l : List Nr} {best at_ id a : Int} (h : Bk l best at_) (hn : (l.any fun z => z.id == id) = false) (hid : 100 ≤ id) (ha : 200 ≤ a) : Bk (l ++ [bkN id a]) (if best < id then id else best) (if best < id then a else at_) := by
  have hne : ∀ z ∈ l, z.id ≠ id := fun z hz e => by
    rw [List.any_eq_false] at hn
    exact hn z hz (by simp [e])
  refine ⟨fun z hz => ?_, ?_, ?_⟩
  · rcases List.mem_append.1 hz with hz | hz
    · exact h.all z hz
    · rw [List.mem_singleton.1 hz]; exact ⟨rfl, rfl, rfl, rfl, ha, hid⟩
  · rw [List.pairwise_append]
    refine ⟨h.ids, List.pairwise_singleton _ _, fun x hx y hy => ?_⟩
    rw [List.mem_singleton.1 hy]
    exact hne x hx
  · refine .inr ?_
    rcases h.top with ⟨rfl, rfl, rfl⟩ | ⟨x, hx, rfl, rfl, hm⟩
    · rw [if_pos (by omega), if_pos (by omega)]
      exact ⟨bkN id a, by simp, rfl, rfl, fun z hz => .inl (by simpa using hz)⟩
    · by_cases hc : x.id < id
      · rw [if_pos hc, if_pos hc]
        refine ⟨bkN id a, by simp, rfl, rfl, fun z hz => ?_⟩
        rcases List.mem_append.1 hz with hz | hz
        · right
          show z.id < id
          rcases hm z hz with rfl | h1 <;> omega
        · exact .inl (List.mem_singleton.1 hz)
      · rw [if_neg hc, if_neg hc]
        refine ⟨x, by simp [hx], rfl, rfl, fun z hz => ?_⟩
        rcases List.mem_append.1 hz with hz | hz
        · exact hm z hz
        · right
          rw [List.mem_singleton.1 hz]
          show id < x.id
          have := hne x hx
          omega
theorem Bk.elec {l : List Nr} {best at_ : Int} (h : Bk l best at_) : elec ⟨7, 50, 1, 60, 50⟩ (cnds (ris l)) = (50, at_) := by
  have mem : ∀ c ∈ cnds (ris l), ∃ z ∈ l, c = cand z := fun c hc => by
    unfold cnds at hc
    obtain ⟨z, hz, rfl⟩ := List.mem_map.1 hc
    exact ⟨z, (ris_iff h.ids z).1 (List.mem_filter.1 hz).1, rfl⟩
  have nd : ∀ c ∈ cnds (ris l), fDes c = false ∧ fBak c = false ∧ fOth c = true := fun c hc => by
    obtain ⟨z, hz, rfl⟩ := mem c hc
    obtain ⟨_, _, h1, h2, h3, _⟩ := h.all z hz
    unfold fDes fBak fOth cand
    simp only [h1, h2]
    exact ⟨decide_eq_false (by omega), by rw [decide_eq_false (p := (50 : Int) = z.addr) (by omega)]; simp, decide_eq_true (by omega)⟩
  have eg : ∀ (p : Cd → Bool) (c0 : Cd), (∀ c ∈ cnds (ris l), p c = false) → elig p (c0 :: cnds (ris l)) = elig p [c0] := fun p c0 hp => by
    have := elig_no hp
    unfold elig at this ⊢
    rw [List.any_cons, this, List.any_cons]
    rfl
  have bg : ∀ (p : Cd → Bool) (c0 : Cd), (∀ c ∈ cnds (ris l), p c = false) → bst p (c0 :: cnds (ris l)) = bst p [c0] := fun p c0 hp => by
    unfold bst
    rw [List.foldl_cons]
    have : ∀ (m : List Cd) (s : Option Cd), (∀ c ∈ m, p c = false) → m.foldl (step p) s = s := by
      intro m
      induction m with
      | nil => intro s _; rfl
      | cons c m ih =>
        intro s hm
        rw [List.foldl_cons]
        have : step p s c = s := by unfold step; rw [hm c (by simp)]; split <;> rfl
        rw [this]
        exact ih s (fun c hc => hm c (by simp [hc]))
    rw [this _ _ hp]
    rfl
  have p1 := fun c hc => (nd c hc).1
  have p2' := fun c hc => (nd c hc).2.1
  have r1 : rnd (⟨7, 50, 1, 60, 50⟩ :: cnds (ris l)) = (50, 50) := by
    unfold rnd
    rw [eg _ _ p1, eg _ _ p2', bg _ _ p1, bg _ _ p2']
    rfl
  have bo : adr (bst fOth (⟨7, 50, 1, 50, 50⟩ :: cnds (ris l))) = at_ := by
    have e : bst fOth (⟨7, 50, 1, 50, 50⟩ :: cnds (ris l)) = (cnds (ris l)).foldl (step fOth) none := rfl
    rw [e]
    rcases h.top with ⟨rfl, _, rfl⟩ | ⟨x, hx, _, hxa, hm⟩
    · rfl
    · obtain ⟨q1, q2, _⟩ := h.all x hx
      have hin : cand x ∈ cnds (ris l) := by
        unfold cnds
        exact List.mem_map_of_mem (List.mem_filter.2 ⟨(ris_iff h.ids x).2 hx, q2⟩)
      rw [bst_top (x := cand x) (by unfold cand; simp only [q1]; decide) (nd _ hin).2.2 (fun y hy => by cases hy) (fun y hy => ?_) (.inl hin)]
      · exact hxa
      · obtain ⟨z, hz, rfl⟩ := mem y hy
        rcases hm z hz with rfl | hlt
        · exact .inl rfl
        · right
          have z1 := (h.all z hz).1
          rw [bt_eq, bt_eq]
          unfold cand
          simp only [q1, z1]
          simp [hlt, Ne.symm (Int.ne_of_lt hlt), Int.ne_of_lt hlt]
          omega
  have r2 : rnd (⟨7, 50, 1, 50, 50⟩ :: cnds (ris l)) = (50, at_) := by
    unfold rnd
    rw [eg _ _ p1, eg _ _ p2', bg _ _ p1, bg _ _ p2', bo]
    rfl
  unfold Kt.elec
  rw [r1, if_pos (by rfl)]
  exact r2
theorem Bk.step {l : List Nr} {best at_ : Int} (h : Bk l best at_) : stepF ⟨2, 50, 0, 0, 1, 4, 0, 60, 50⟩ 7 l = ⟨2, 50, 0, 0, 1, 5, 0, 50, at_⟩ := by
  unfold stepF
  rw [if_neg (show ¬ ((4 : Int) = 1) by decide), if_neg (by rintro ⟨h, _⟩; exact absurd (show (4 : Int) = 2 from h) (by decide))]
  unfold turnF el stOf
  simp only
  rw [h.elec]
  rfl
end Go.Proofs.Ytnenbopcoghmaaa.Kt
