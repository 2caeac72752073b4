/- Part of the proofs of this seat's statements: what the functions compute. No condition. -/
import Derived.Test.YtlldjlhjbhkngaaC18Bz
set_option linter.unusedSimpArgs false
set_option linter.unusedVariables false
namespace Go.Proofs.Ytlldjlhjbhkngaa.Kt
open Go Kw Go.Proofs
/-! ### maps of routers alone: who leads where -/
/-- Routers 1 to n; P j k c: the one at place j leads to k at the cost c. -/
structure Rw (P : Nat → Int → Int → Prop) (n N : Nat) (gs : List Ls) : Prop where
  len : gs.length = n
  el : ∀ (j : Nat) (x : Ls), gs[j]? = some x → x = ⟨0, 1, j + 1, j + 1, 0, 0, 0, 0, x.lk, 0, [], []⟩ ∧ x.lk.length ≤ N ∧ (∀ q ∈ x.lk, q.k = 1) ∧ ∀ k c, (∃ q ∈ x.lk, q.i = k ∧ q.c = c) ↔ P j k c
theorem Rw.of {n : Nat} {gs : List Ls} (h : Gs n 0 gs) : Rw (fun _ _ _ => False) n 0 gs := ⟨h.len, fun j x hx => by
  obtain ⟨h1, _, h3⟩ := h.el j x hx
  have hn : x.lk = [] := List.eq_nil_of_length_eq_zero (by omega)
  refine ⟨h1, h3, ?_, fun k c => ⟨?_, fun h => h.elim⟩⟩
  · rw [hn]; intro q hq; cases hq
  · rw [hn]; rintro ⟨q, hq, _⟩; cases hq⟩
theorem Rw.congr {P P' : Nat → Int → Int → Prop} {n N : Nat} {gs : List Ls} (h : Rw P n N gs) (hp : ∀ j k c, j < n → (P j k c ↔ P' j k c)) : Rw P' n N gs := ⟨h.len, fun j x hx => by
  obtain ⟨h1, h2, h3, h4⟩ := h.el j x hx
  have hl := (List.getElem?_eq_some_iff.1 hx).1
  exact ⟨h1, h2, h3, fun k c => (h4 k c).trans (hp j k c (by rw [← h.len]; exact hl))⟩⟩
theorem Rw.mono {P : Nat → Int → Int → Prop} {n N M : Nat} {gs : List Ls} (h : Rw P n N gs) (hm : N ≤ M) : Rw P n M gs := ⟨h.len, fun j x hx => by
  obtain ⟨h1, h2, h3⟩ := h.el j x hx
  exact ⟨h1, Nat.le_trans h2 hm, h3⟩⟩
theorem Rw.add {P : Nat → Int → Int → Prop} {n N : Nat} {gs : List Ls} (h : Rw P n N gs) {a : Nat} {x : Ls} (hx : gs[a]? = some x) (k0 d0 c0 : Int) : Rw (fun j k c => P j k c ∨ (j = a ∧ k = k0 ∧ c = c0)) n (N + 1) (gs.set a (x.add ⟨1, k0, d0, c0⟩)) := by
  refine ⟨by rw [List.length_set]; exact h.len, fun j y hy => ?_⟩
  rcases get_set hy with ⟨rfl, rfl, _⟩ | ⟨hne, hy⟩
  · obtain ⟨h1, h2, h3, h4⟩ := h.el a x hx
    refine ⟨by unfold Ls.add; rw [h1], ?_, fun q hq => ?_, fun k c => ?_⟩
    · show (x.lk ++ [_]).length ≤ _
      rw [List.length_append, List.length_singleton]; omega
    · rcases List.mem_append.1 hq with hq | hq
      · exact h3 q hq
      · rw [List.mem_singleton.1 hq]
    · rw [← h4 k c]
      show (∃ q ∈ x.lk ++ [_], _) ↔ _
      constructor
      · rintro ⟨q, hq, e1, e2⟩
        rcases List.mem_append.1 hq with hq | hq
        · exact .inl ⟨q, hq, e1, e2⟩
        · rw [List.mem_singleton.1 hq] at e1 e2
          exact .inr ⟨rfl, e1.symm, e2.symm⟩
      · rintro (⟨q, hq, e⟩ | ⟨_, rfl, rfl⟩)
        · exact ⟨q, List.mem_append_left _ hq, e⟩
        · exact ⟨_, List.mem_append_right _ (List.mem_singleton.2 rfl), rfl, rfl⟩
  · obtain ⟨h1, h2, h3, h4⟩ := h.el j y hy
    refine ⟨h1, by omega, h3, fun k c => (h4 k c).trans ⟨.inl, ?_⟩⟩
    rintro (h5 | ⟨e, _⟩)
    · exact h5
    · exact absurd e.symm hne
theorem find_fold {v : Vt} : ∀ {l : List Ls} {m : Option Ls}, (m.isSome = true ∨ ∃ x ∈ l, x.age < 3600 ∧ isV v x = true ∧ x.id = v.i) → (l.foldl (fdS v) m).isSome = true
  | [], m, h => by
    rcases h with h | ⟨x, hx, _⟩
    · exact h
    · cases hx
  | y :: l, m, h => by
    rw [List.foldl_cons]
    refine find_fold ?_
    by_cases hm : (fdS v m y).isSome = true
    · exact .inl hm
    · right
      have hmn : m = none := by
        cases m with
        | none => rfl
        | some z =>
          unfold fdS at hm
          split at hm <;> exact absurd rfl hm
      subst hmn
      rcases h with h | ⟨x, hx, h1, h2, h3⟩
      · cases h
      · rcases List.mem_cons.1 hx with rfl | hx
        · exfalso
          apply hm
          unfold fdS
          rw [if_pos (by simp [h1, h2, h3])]
          rfl
        · exact ⟨x, hx, h1, h2, h3⟩
theorem find_has {l : List Ls} {v : Vt} {x : Ls} (hx : x ∈ l) (h1 : x.age < 3600) (h2 : isV v x = true) (h3 : x.id = v.i) : ∃ y, findL l v = some y := by
  have : (findL l v).isSome = true := find_fold (.inr ⟨x, hx, h1, h2, h3⟩)
  exact Option.isSome_iff_exists.1 this
section
variable {P : Nat → Int → Int → Prop} {n N : Nat} {gs : List Ls}
theorem Rw.find (h : Rw P n N gs) {v : Vt} {x : Ls} (hx : findL gs v = some x) : ∃ j : Nat, gs[j]? = some x ∧ v = ⟨1, j + 1⟩ ∧ j < n := by
  obtain ⟨h1, _, h3, h4⟩ := find_is hx
  obtain ⟨j, hj⟩ := List.mem_iff_getElem?.1 h1
  have hjl := (List.getElem?_eq_some_iff.1 hj).1
  obtain ⟨h5, _⟩ := h.el j x hj
  refine ⟨j, hj, ?_, by rw [← h.len]; exact hjl⟩
  rw [h5] at h3 h4
  unfold isV at h3
  cases v with
  | mk vk vi =>
    simp only [Bool.or_eq_true, Bool.and_eq_true, decide_eq_true_eq] at h3 h4
    rcases h3 with ⟨h3, _⟩ | ⟨_, h3⟩
    · rw [h3, ← h4]
    · exact absurd h3 (by decide)
theorem Rw.find_at (h : Rw P n N gs) {j : Nat} (hj : j < n) : ∃ x, gs[j]? = some x ∧ findL gs ⟨1, (j : Int) + 1⟩ = some x := by
  obtain ⟨x, hx⟩ : ∃ x, gs[j]? = some x := ⟨_, List.getElem?_eq_getElem (by rw [h.len]; exact hj)⟩
  obtain ⟨h5, _⟩ := h.el j x hx
  obtain ⟨y, hy⟩ := find_has (v := ⟨1, (j : Int) + 1⟩) (List.mem_of_getElem? hx) (by rw [h5]; show (0 : Int) < 3600; decide) (by rw [h5]; simp [isV]) (by rw [h5])
  obtain ⟨j', h1, h2, _⟩ := h.find hy
  have : j' = j := by
    have := congrArg Vt.i h2
    simp only at this
    omega
  subst this
  rw [hx] at h1
  cases h1
  exact ⟨x, hx, hy⟩
theorem Rw.verts (h : Rw P n N gs) {v : Vt} : v ∈ vertsL gs ↔ ∃ j : Nat, j < n ∧ v = ⟨1, j + 1⟩ := by
  rw [verts_mem]
  constructor
  · rintro ⟨x, hx, _, h2⟩
    obtain ⟨j, hj⟩ := List.mem_iff_getElem?.1 hx
    have hjl := (List.getElem?_eq_some_iff.1 hj).1
    obtain ⟨h5, _⟩ := h.el j x hj
    refine ⟨j, by rw [← h.len]; exact hjl, ?_⟩
    rw [h5] at h2
    rcases h2 with ⟨_, _, h2⟩ | ⟨h2, _⟩
    · exact h2
    · exact absurd h2 (by show ¬ (1 : Int) = 2; decide)
  · rintro ⟨j, hj, rfl⟩
    obtain ⟨x, hx, _⟩ := h.find_at hj
    obtain ⟨h5, _⟩ := h.el j x hx
    refine ⟨x, List.mem_of_getElem? hx, by rw [h5]; show (0 : Int) < 3600; decide, .inl ⟨by rw [h5], by rw [h5], by rw [h5]⟩⟩
theorem Rw.edge (h : Rw P n N gs) {e : Eg} (he : e ∈ (mapL gs).es) : ∃ (j : Nat) (k : Int), j < n ∧ e.f = ⟨1, j + 1⟩ ∧ e.t = ⟨1, k⟩ ∧ P j k e.c := by
  obtain ⟨v, hv, he⟩ := List.mem_flatMap.1 he
  obtain ⟨j, hj, rfl⟩ := h.verts.1 hv
  obtain ⟨x, hx, hfx⟩ := h.find_at hj
  obtain ⟨h5, _, h6, h7⟩ := h.el j x hx
  unfold fromL at he
  rw [hfx] at he
  have hrt : x.rt = [] := by rw [h5]
  rcases List.mem_append.1 he with he | he
  · obtain ⟨q, hq, he⟩ := List.mem_flatMap.1 he
    have hq : q ∈ x.lk := hq
    rcases List.mem_append.1 he with he | he
    · unfold edK1 at he
      split at he
      · split at he
        · rw [List.mem_singleton.1 he]
          exact ⟨j, q.i, hj, rfl, rfl, (h7 q.i q.c).1 ⟨q, hq, rfl, rfl⟩⟩
        · cases he
      · cases he
    · unfold edK2 at he
      split at he
      · rename_i hk
        rw [eqB_eq, h6 q hq] at hk
        exact absurd hk (by decide)
      · cases he
  · have he : e ∈ edRs gs ⟨1, (j : Int) + 1⟩ x.rt x.rt.length := he
    rw [hrt] at he
    cases he
theorem Rw.edge_mk (h : Rw P n N gs) {j i : Nat} (hj : j < n) (hi : i < n) {c c' : Int} (hp : P j (i + 1) c) (hq : P i (j + 1) c') : ∃ e ∈ (mapL gs).es, e.f = ⟨1, j + 1⟩ ∧ e.t = ⟨1, i + 1⟩ ∧ e.c = c := by
  obtain ⟨x, hx, hfx⟩ := h.find_at hj
  obtain ⟨y, hy, hfy⟩ := h.find_at hi
  obtain ⟨_, _, h6, h7⟩ := h.el j x hx
  obtain ⟨_, _, g6, g7⟩ := h.el i y hy
  obtain ⟨q, hq1, hq2, hq3⟩ := (h7 _ _).2 hp
  obtain ⟨r, hr1, hr2, hr3⟩ := (g7 _ _).2 hq
  refine ⟨⟨⟨1, j + 1⟩, ⟨1, q.i⟩, q.c, q.d⟩, List.mem_flatMap.2 ⟨⟨1, j + 1⟩, h.verts.2 ⟨j, hj, rfl⟩, ?_⟩, rfl, by rw [hq2], hq3⟩
  unfold fromL
  rw [hfx]
  refine List.mem_append_left _ (List.mem_flatMap.2 ⟨q, hq1, List.mem_append_left _ ?_⟩)
  have hb : (backL y.lk 1 (j + 1)).isSome = true := by
    unfold backL
    rw [List.find?_isSome]
    exact ⟨r, hr1, by unfold bkP; rw [hr2, g6 r hr1]; simp⟩
  unfold edK1
  rw [eqB_eq, h6 q hq1, hq2, hfy]
  simp [hb]
theorem Rw.few (h : Rw P n N gs) (hn : n ≤ 1000) (hN : N ≤ 1000) : Few gs := by
  refine ⟨by rw [h.len]; exact hn, fun x hx => ?_, fun x hx => ?_⟩
  · obtain ⟨j, hj⟩ := List.mem_iff_getElem?.1 hx
    have := (h.el j x hj).2.1
    omega
  · obtain ⟨j, hj⟩ := List.mem_iff_getElem?.1 hx
    rw [(h.el j x hj).1]; exact Nat.zero_le _
end
/-! ### costs from below and from above -/
theorem Grown.above {bt : List Nd → Nd → Nd → Bool} {es : List Eg} {t : List Nd} (h : Grown bt es t) {C : Int} (h0 : ∀ n, t[0]? = some n → n.c = 0) (hl : t.length ≤ 100000) (hC : C ≤ 1000000) (hes : ∀ e ∈ es, 0 ≤ e.c ∧ e.c ≤ C) (pot : Vt → Int) (hp0 : ∀ n, t[0]? = some n → pot n.v ≤ 0) (hp : ∀ e ∈ es, pot e.t ≤ pot e.f + e.c) : ∀ (j : Nat) (n : Nd), t[j]? = some n → pot n.v ≤ n.c := by
  intro j
  induction j using Nat.strongRecOn with
  | _ j ih =>
    intro n hn
    rcases Nat.eq_zero_or_pos j with rfl | hj
    · rw [h0 n hn]; exact hp0 n hn
    · obtain ⟨e, he, p, x, hp', hx, hxv, het, _, hc, _⟩ := h.edge hj hn
      have h1 := ih p hp' x hx
      have h2 := hp e he
      obtain ⟨c1, c2⟩ := h.cost h0 hl hC hes p x hx
      obtain ⟨c3, c4⟩ := hes e he
      have hpl := (List.getElem?_eq_some_iff.1 hx).1
      have haC : (p : Int) * C ≤ 100000 * 1000000 := Int.le_trans (Int.mul_le_mul_of_nonneg_left hC (by omega)) (Int.mul_le_mul_of_nonneg_right (by omega) (by omega))
      rw [hc, wr_i64 (by omega) (by omega), ← het]
      rw [hxv] at h1
      omega
/-- The costs of a row, from 1 on. -/
def pre (cs : List Int) (i : Nat) : Int := (cs.take i).sum
theorem pre_zero (cs : List Int) : pre cs 0 = 0 := rfl
theorem pre_succ {cs : List Int} {i : Nat} {c : Int} (h : cs[i]? = some c) : pre cs (i + 1) = pre cs i + c := by
  unfold pre
  rw [take_snoc h, List.sum_append]
  simp
theorem pre_rng {cs : List Int} (hc : ∀ c ∈ cs, 0 ≤ c ∧ c ≤ 256) : ∀ i, i ≤ cs.length → 0 ≤ pre cs i ∧ pre cs i ≤ 256 * i
  | 0, _ => by rw [pre_zero]; omega
  | i + 1, h => by
    obtain ⟨c, hx⟩ : ∃ c, cs[i]? = some c := ⟨_, List.getElem?_eq_getElem (by omega)⟩
    obtain ⟨h1, h2⟩ := pre_rng hc i (by omega)
    have := hc c (List.mem_of_getElem? hx)
    rw [pre_succ hx]
    omega
/-- Who leads where in a row of which so many links are told. -/
def rowP (cs : List Int) (i : Nat) (j : Nat) (k c : Int) : Prop := (j < i ∧ k = (j : Int) + 2 ∧ cs[j]? = some c) ∨ (∃ m : Nat, j = m + 1 ∧ m < i ∧ k = (m : Int) + 1 ∧ cs[m]? = some c)
def ringP (cs : List Int) (L : Int) (j : Nat) (k c : Int) : Prop := rowP cs cs.length j k c ∨ (j = 0 ∧ k = (cs.length : Int) + 1 ∧ c = L) ∨ (j = cs.length ∧ k = 1 ∧ c = L)
theorem rowP_step {cs : List Int} {i : Nat} {c0 : Int} (h : cs[i]? = some c0) (j : Nat) (k c : Int) : ((rowP cs i j k c ∨ (j = i ∧ k = (i : Int) + 2 ∧ c = c0)) ∨ (j = i + 1 ∧ k = (i : Int) + 1 ∧ c = c0)) ↔ rowP cs (i + 1) j k c := by
  unfold rowP
  constructor
  · rintro (((⟨h1, h2, h3⟩ | ⟨m, h1, h2, h3, h4⟩) | ⟨rfl, h2, rfl⟩) | ⟨rfl, h2, rfl⟩)
    · exact .inl ⟨by omega, h2, h3⟩
    · exact .inr ⟨m, h1, by omega, h3, h4⟩
    · exact .inl ⟨by omega, h2, h⟩
    · exact .inr ⟨i, rfl, by omega, h2, h⟩
  · rintro (⟨h1, h2, h3⟩ | ⟨m, h1, h2, h3, h4⟩)
    · rcases Nat.lt_or_ge j i with hj | hj
      · exact .inl (.inl (.inl ⟨hj, h2, h3⟩))
      · have : j = i := by omega
        subst this
        rw [h] at h3
        exact .inl (.inr ⟨rfl, h2, (Option.some.inj h3).symm⟩)
    · rcases Nat.lt_or_ge m i with hm | hm
      · exact .inl (.inl (.inr ⟨m, h1, hm, h3, h4⟩))
      · have : m = i := by omega
        subst this
        rw [h] at h4
        exact .inr ⟨h1, h3, (Option.some.inj h4).symm⟩
theorem rowP_zero (cs : List Int) (j : Nat) (k c : Int) : False ↔ rowP cs 0 j k c := by
  unfold rowP
  constructor
  · exact fun h => h.elim
  · rintro (⟨h1, _⟩ | ⟨m, _, h1, _⟩)
    · exact Nat.not_lt_zero _ h1
    · exact Nat.not_lt_zero _ h1
/-- Vertices 1 to n. -/
def rv (n : Nat) : List Vt := (List.range n).map (fun (j : Nat) => (⟨1, (j : Int) + 1⟩ : Vt))
theorem rv_mem {n : Nat} {v : Vt} : v ∈ rv n ↔ ∃ j : Nat, j < n ∧ v = ⟨1, j + 1⟩ := by
  unfold rv
  rw [List.mem_map]
  constructor
  · rintro ⟨j, hj, rfl⟩; exact ⟨j, List.mem_range.1 hj, rfl⟩
  · rintro ⟨j, hj, rfl⟩; exact ⟨j, List.mem_range.2 hj, rfl⟩
theorem rv_nodup (n : Nat) : (rv n).Nodup := by
  unfold rv
  refine List.pairwise_map.2 (List.Pairwise.imp ?_ List.nodup_range)
  intro a b hab e
  apply hab
  have := congrArg Vt.i e
  simp only at this
  omega
theorem rv_len (n : Nat) : (rv n).length = n := by unfold rv; simp
section
variable {cs : List Int} {Q : Nat → Int → Int → Prop} {N : Nat} {gs : List Ls} {t : List Nd}
/-- Whatever else leads, each of the row is in the tree, at no more than the row's costs. -/
theorem row_up (h : Rw Q (cs.length + 1) N gs) (hQ : ∀ j k c, rowP cs cs.length j k c → Q j k c) (hT : Tr gs ⟨1, 1⟩ t) (hcs : ∀ e ∈ (mapL gs).es, 0 ≤ e.c ∧ e.c ≤ 1000000) : ∀ i, i ≤ cs.length → ∃ (a : Nat) (x : Nd), t[a]? = some x ∧ x.v = ⟨1, (i : Int) + 1⟩ ∧ x.c ≤ pre cs i
  | 0, _ => ⟨0, _, hT.hd, rfl, Int.le_refl _⟩
  | i + 1, hi => by
    obtain ⟨a, x, hx, hxv, hxc⟩ := row_up h hQ hT hcs i (by omega)
    obtain ⟨c, hc⟩ : ∃ c, cs[i]? = some c := ⟨_, List.getElem?_eq_getElem (by omega)⟩
    obtain ⟨e, he, e1, e2, e3⟩ := h.edge_mk (j := i) (i := i + 1) (c := c) (c' := c) (by omega) (by omega) (hQ _ _ _ (.inl ⟨by omega, by omega, hc⟩)) (hQ _ _ _ (.inr ⟨i, rfl, by omega, rfl, hc⟩))
    have hpa : placeL t e.f = some a := by rw [e1, ← hxv]; exact hT.gr.place hx
    obtain ⟨b, hb⟩ := closed hT.en he hpa
    obtain ⟨y, hy, hyv⟩ := placeL_some hb
    have := hT.gr.short soon_cheap (C := 1000000) hT.zero hT.len (by omega) hcs he hx (hxv.trans e1.symm) hy hyv
    refine ⟨b, y, hy, by rw [hyv, e2], ?_⟩
    rw [pre_succ hc]
    omega
theorem row_len (h : Rw Q (cs.length + 1) N gs) (hQ : ∀ j k c, rowP cs cs.length j k c → Q j k c) (hT : Tr gs ⟨1, 1⟩ t) (hcs : ∀ e ∈ (mapL gs).es, 0 ≤ e.c ∧ e.c ≤ 1000000) : t.length = cs.length + 1 := by
  have h1 := pig hT.nd (l' := rv (cs.length + 1)) (fun v hv => by
    obtain ⟨n, hn, rfl⟩ := List.mem_map.1 hv
    exact rv_mem.2 (h.verts.1 (hT.vs n hn)))
  have h2 := pig (rv_nodup (cs.length + 1)) (l' := t.map Nd.v) (fun v hv => by
    obtain ⟨j, hj, rfl⟩ := rv_mem.1 hv
    obtain ⟨a, x, hx, hxv, _⟩ := row_up h hQ hT hcs j (by omega)
    exact List.mem_map.2 ⟨x, List.mem_of_getElem? hx, hxv⟩)
  rw [List.length_map, rv_len] at h1 h2
  omega
end
theorem pre_at {cs : List Int} {j : Nat} {k c : Int} (h : rowP cs cs.length j k c) : (k = (j : Int) + 2 ∧ pre cs (k - 1).toNat = pre cs j + c ∧ j < cs.length ∧ c ∈ cs) ∨ (k = (j : Int) ∧ 1 ≤ j ∧ pre cs j = pre cs (k - 1).toNat + c ∧ j ≤ cs.length ∧ c ∈ cs) := by
  rcases h with ⟨h1, h2, h3⟩ | ⟨m, h1, h2, h3, h4⟩
  · refine .inl ⟨h2, ?_, h1, List.mem_of_getElem? h3⟩
    rw [h2, show ((j : Int) + 2 - 1).toNat = j + 1 by omega, pre_succ h3]
  · refine .inr ⟨by omega, by omega, ?_, by omega, List.mem_of_getElem? h4⟩
    rw [h1, h3, show ((m : Int) + 1 - 1).toNat = m by omega, pre_succ h4]
/-- The row's end costs what the row costs. -/
theorem row_cost {cs : List Int} {gs : List Ls} {t : List Nd} {N : Nat} (hc : ∀ c ∈ cs, 1 ≤ c ∧ c ≤ 256) (h : Rw (rowP cs cs.length) (cs.length + 1) N gs) (hT : Tr gs ⟨1, 1⟩ t) : (∃ (a : Nat) (x : Nd), t[a]? = some x ∧ placeL t ⟨1, (cs.length : Int) + 1⟩ = some a ∧ x.c = pre cs cs.length) ∧ t.length = cs.length + 1 := by
  have hcs : ∀ e ∈ (mapL gs).es, 0 ≤ e.c ∧ e.c ≤ 1000000 := fun e he => by
    obtain ⟨j, k, _, _, _, hp⟩ := h.edge he
    rcases pre_at hp with ⟨_, _, _, hm⟩ | ⟨_, _, _, _, hm⟩ <;> have := hc _ hm <;> omega
  refine ⟨?_, row_len h (fun _ _ _ h => h) hT hcs⟩
  obtain ⟨a, x, hx, hxv, hxc⟩ := row_up h (fun _ _ _ h => h) hT hcs cs.length (Nat.le_refl _)
  have hlo := hT.gr.above (C := 1000000) hT.zero hT.len (by omega) hcs (fun v => pre cs (v.i - 1).toNat) (fun n hn => by rw [hT.hd] at hn; cases hn; exact Int.le_refl _) (fun e he => by
    obtain ⟨j, k, hj, e1, e2, hp⟩ := h.edge he
    rw [e1, e2]
    show pre cs (k - 1).toNat ≤ pre cs ((j : Int) + 1 - 1).toNat + e.c
    rw [show ((j : Int) + 1 - 1).toNat = j by omega]
    rcases pre_at hp with ⟨_, h2, _, hm⟩ | ⟨_, _, h2, _, hm⟩
    · omega
    · have := hc _ hm; omega) a x hx
  refine ⟨a, x, hx, by rw [← hxv]; exact hT.gr.place hx, ?_⟩
  rw [hxv] at hlo
  have hlo : pre cs ((cs.length : Int) + 1 - 1).toNat ≤ x.c := hlo
  rw [show ((cs.length : Int) + 1 - 1).toNat = cs.length by omega] at hlo
  omega
def rpot (S L p : Int) : Int := if p ≤ L + S - p then p else L + S - p
theorem rpot_near {S L p q c : Int} (h : p ≤ q + c) (h' : q ≤ p + c) : rpot S L p ≤ rpot S L q + c := by
  unfold rpot
  split <;> split <;> omega
theorem rpot_low {S L : Int} (h : 0 ≤ S) (h' : 1 ≤ L) : rpot S L 0 = 0 := by
  unfold rpot
  split <;> omega
theorem rpot_high (S L : Int) : rpot S L S = if S ≤ L then S else L := by
  unfold rpot
  split <;> split <;> omega
/-- A ring is gone round the cheaper way. -/
theorem ring_cost {cs : List Int} {gs : List Ls} {u : List Nd} {N : Nat} {L : Int} (hL : 1 ≤ L ∧ L ≤ 256) (hc : ∀ c ∈ cs, 1 ≤ c ∧ c ≤ 256) (h : Rw (ringP cs L) (cs.length + 1) N gs) (hT : Tr gs ⟨1, 1⟩ u) : ∃ (a : Nat) (x : Nd), u[a]? = some x ∧ placeL u ⟨1, (cs.length : Int) + 1⟩ = some a ∧ x.c = mm false (pre cs cs.length) L := by
  have hpr : ∀ i, i ≤ cs.length → 0 ≤ pre cs i ∧ pre cs i ≤ pre cs cs.length := fun i hi => by
    have h0 := pre_rng (fun c hm => ⟨by have := hc c hm; omega, (hc c hm).2⟩) i hi
    refine ⟨h0.1, ?_⟩
    have : ∀ d, i + d ≤ cs.length → pre cs i ≤ pre cs (i + d) := fun d => by
      induction d with
      | zero => intro _; exact Int.le_refl _
      | succ d ih =>
        intro hd
        obtain ⟨c, hx⟩ : ∃ c, cs[i + d]? = some c := ⟨_, List.getElem?_eq_getElem (by omega)⟩
        have h1 := ih (by omega)
        have h2 := hc c (List.mem_of_getElem? hx)
        rw [show i + (d + 1) = (i + d) + 1 by omega, pre_succ hx]
        omega
    have := this (cs.length - i) (by omega)
    rwa [show i + (cs.length - i) = cs.length by omega] at this
  have hcs : ∀ e ∈ (mapL gs).es, 0 ≤ e.c ∧ e.c ≤ 1000000 := fun e he => by
    obtain ⟨j, k, _, _, _, hp⟩ := h.edge he
    rcases hp with hp | ⟨_, _, hp⟩ | ⟨_, _, hp⟩
    · rcases pre_at hp with ⟨_, _, _, hm⟩ | ⟨_, _, _, _, hm⟩ <;> have := hc _ hm <;> omega
    · omega
    · omega
  obtain ⟨a, x, hx, hxv, hxc⟩ := row_up h (fun _ _ _ h => .inl h) hT hcs cs.length (Nat.le_refl _)
  refine ⟨a, x, hx, by rw [← hxv]; exact hT.gr.place hx, ?_⟩
  have hxL : x.c ≤ L := by
    obtain ⟨e, he, e1, e2, e3⟩ := h.edge_mk (j := 0) (i := cs.length) (c := L) (c' := L) (by omega) (by omega) (.inr (.inl ⟨rfl, rfl, rfl⟩)) (.inr (.inr ⟨rfl, rfl, rfl⟩))
    have := hT.gr.short soon_cheap (C := 1000000) hT.zero hT.len (by omega) hcs he hT.hd (by rw [e1]; rfl) hx (by rw [hxv, e2])
    have h0 : (rootN ⟨1, 1⟩).c = 0 := rfl
    omega
  have hr := hpr cs.length (Nat.le_refl _)
  have hlo := hT.gr.above (C := 1000000) hT.zero hT.len (by omega) hcs (fun v => rpot (pre cs cs.length) L (pre cs (v.i - 1).toNat)) (fun n hn => by
      rw [hT.hd] at hn; cases hn
      show rpot (pre cs cs.length) L (pre cs ((1 : Int) - 1).toNat) ≤ 0
      rw [show ((1 : Int) - 1).toNat = 0 by omega, pre_zero, rpot_low hr.1 hL.1]
      exact Int.le_refl _) (fun e he => by
    obtain ⟨j, k, hj, e1, e2, hp⟩ := h.edge he
    rw [e1, e2]
    show rpot (pre cs cs.length) L (pre cs (k - 1).toNat) ≤ rpot (pre cs cs.length) L (pre cs ((j : Int) + 1 - 1).toNat) + e.c
    rw [show ((j : Int) + 1 - 1).toNat = j by omega]
    rcases hp with hp | ⟨h1, h2, h3⟩ | ⟨h1, h2, h3⟩
    · rcases pre_at hp with ⟨_, h2, _, hm⟩ | ⟨_, _, h2, _, hm⟩
      · have := hc _ hm
        exact rpot_near (by omega) (by omega)
      · have := hc _ hm
        exact rpot_near (by omega) (by omega)
    · subst h1
      rw [h2, show ((cs.length : Int) + 1 - 1).toNat = cs.length by omega, pre_zero, rpot_low hr.1 hL.1, rpot_high, h3]
      split <;> omega
    · subst h1
      rw [h2, show ((1 : Int) - 1).toNat = 0 by omega, pre_zero, rpot_low hr.1 hL.1, rpot_high, h3]
      split <;> omega) a x hx
  rw [hxv] at hlo
  have hlo : rpot (pre cs cs.length) L (pre cs ((cs.length : Int) + 1 - 1).toNat) ≤ x.c := hlo
  rw [show ((cs.length : Int) + 1 - 1).toNat = cs.length by omega, rpot_high] at hlo
  unfold mm
  split at hlo <;> simp only [Bool.false_eq_true, if_false] <;> split <;> omega
end Go.Proofs.Ytlldjlhjbhkngaa.Kt
