/- Part of the proofs of this seat's statements: what the functions compute. No condition. -/
import Derived.Test.YtmocggibcniggaaC18S
set_option linter.unusedSimpArgs false
set_option linter.unusedVariables false
namespace Go.Proofs.Ytmocggibcniggaa.Kt
open Go Kw Go.Proofs
/-! ### the tree, as it grows -/
/-- Each Node but the first is the best one behind those ahead of it. -/
def Grown (bt : List Nd → Nd → Nd → Bool) (es : List Eg) (t : List Nd) : Prop := ∀ j, 1 ≤ j → j < t.length → bestL bt (t.take j) es = t[j]?
theorem grown_one (bt : List Nd → Nd → Nd → Bool) (es : List Eg) (n : Nd) : Grown bt es [n] := fun j h1 h2 => by
  have : j < 1 := h2
  omega
theorem grown_add {bt : List Nd → Nd → Nd → Bool} {es : List Eg} {t : List Nd} {n : Nd} (h : Grown bt es t) (hn : bestL bt t es = some n) : Grown bt es (t ++ [n]) := fun j h1 h2 => by
  rw [List.length_append, List.length_singleton] at h2
  rcases Nat.lt_or_ge j t.length with hj | hj
  · rw [List.take_append_of_le_length (by omega), List.getElem?_append_left hj]
    exact h j h1 hj
  · have : j = t.length := by omega
    subst this
    rw [List.take_left', hn] <;> simp
theorem treeN_grown {bt : List Nd → Nd → Nd → Bool} {es : List Eg} : ∀ (k : Nat) (t : List Nd), Grown bt es t → Grown bt es (treeN bt es k t) ∧ (∃ r, treeN bt es k t = t ++ r) ∧ (bestL bt (treeN bt es k t) es = none ∨ (treeN bt es k t).length = t.length + k)
  | 0, t, h => ⟨h, ⟨[], by simp [treeN]⟩, .inr rfl⟩
  | k + 1, t, h => by
    cases hb : bestL bt t es with
    | none => rw [treeN_none hb]; exact ⟨h, ⟨[], by simp⟩, .inl hb⟩
    | some n =>
      rw [treeN_some hb]
      obtain ⟨h1, ⟨r, h2⟩, h3⟩ := treeN_grown k (t ++ [n]) (grown_add h hb)
      refine ⟨h1, ⟨n :: r, by rw [h2]; simp⟩, ?_⟩
      rcases h3 with h3 | h3
      · exact .inl h3
      · right; rw [h3]; simp; omega
/-- No candidate costs less than the best. -/
def Cheap (bt : List Nd → Nd → Nd → Bool) : Prop := ∀ t a b, (bt t a b = true → a.c ≤ b.c) ∧ (bt t a b = false → b.c ≤ a.c)
theorem soon_cheap : Cheap soon := fun t a b => by
  have key : ∀ va vb, (soonF va vb a b = true → a.c ≤ b.c) ∧ (soonF va vb a b = false → b.c ≤ a.c) := fun va vb => by
    unfold soonF
    rw [notB_eq, eqB_eq, ltB_eq]
    by_cases h : a.c = b.c
    · rw [h]
      exact ⟨fun _ => Int.le_refl _, fun _ => Int.le_refl _⟩
    · have : (!(a.c == b.c)) = true := by simpa using h
      rw [this]
      refine ⟨fun h => ?_, fun h => ?_⟩
      · have := of_decide_eq_true h; omega
      · have := of_decide_eq_false h; omega
  exact key _ _
theorem best_least {bt : List Nd → Nd → Nd → Bool} (hc : Cheap bt) {t : List Nd} : ∀ {es : List Eg} {m : Option Nd} {b : Nd}, es.foldl (stepT bt t) m = some b → (∀ x, m = some x → b.c ≤ x.c) ∧ ∀ e ∈ es, ∀ n, candL t e = some n → b.c ≤ n.c
  | [], m, b, h => ⟨fun x hx => by
      have h : m = some b := h
      rw [h] at hx; cases hx; exact Int.le_refl _, fun e he => by cases he⟩
  | e :: es, m, b, h => by
    obtain ⟨h1, h2⟩ := best_least hc (es := es) h
    unfold stepT at h1
    have h3 : (∀ x, m = some x → b.c ≤ x.c) ∧ ∀ n, candL t e = some n → b.c ≤ n.c := by
      cases hn : candL t e with
      | none =>
        rw [hn] at h1
        exact ⟨h1, fun n h => by cases h⟩
      | some n =>
        rw [hn] at h1
        cases m with
        | none =>
          refine ⟨fun x hx => (nomatch hx), fun n' hn' => ?_⟩
          cases hn'
          exact h1 n rfl
        | some x =>
          simp only at h1
          have hcc := hc t n x
          cases hb : bt t n x with
          | true =>
            rw [hb] at h1
            have := h1 n rfl
            refine ⟨fun y hy => ?_, fun n' hn' => ?_⟩
            · cases hy; exact Int.le_trans this (hcc.1 hb)
            · cases hn'; exact this
          | false =>
            rw [hb] at h1
            have := h1 x rfl
            refine ⟨fun y hy => ?_, fun n' hn' => ?_⟩
            · cases hy; exact this
            · cases hn'; exact Int.le_trans this (hcc.2 hb)
    refine ⟨h3.1, fun e' he' n hn => ?_⟩
    rcases List.mem_cons.1 he' with rfl | he'
    · exact h3.2 n hn
    · exact h2 e' he' n hn
theorem best_none {bt : List Nd → Nd → Nd → Bool} {t : List Nd} : ∀ {es : List Eg} {m : Option Nd}, es.foldl (stepT bt t) m = none → m = none ∧ ∀ e ∈ es, candL t e = none
  | [], m, h => ⟨h, fun e he => by cases he⟩
  | e :: es, m, h => by
    obtain ⟨h1, h2⟩ := best_none (es := es) h
    have h3 : m = none ∧ candL t e = none := by
      unfold stepT at h1
      cases hn : candL t e with
      | none => rw [hn] at h1; exact ⟨h1, rfl⟩
      | some n =>
        rw [hn] at h1
        cases m with
        | none => cases h1
        | some x =>
          simp only at h1
          split at h1 <;> cases h1
    refine ⟨h3.1, fun e' he' => ?_⟩
    rcases List.mem_cons.1 he' with rfl | he'
    · exact h3.2
    · exact h2 e' he'
theorem cand_some {t : List Nd} {e : Eg} {n : Nd} (h : candL t e = some n) : ∃ p x, placeL t e.f = some p ∧ t[p]? = some x ∧ x.v = e.f ∧ placeL t e.t = none ∧ n = ⟨e.t, p, wr .i64 (x.c + e.c), e.d⟩ := by
  unfold candL at h
  split at h
  · rename_i p hp hq
    cases h
    obtain ⟨x, h1, h2⟩ := placeL_some hp
    exact ⟨p, x, hp, h1, h2, hq, by rw [List.getD_eq_getElem?_getD, h1]; rfl⟩
  · cases h
theorem cand_mk {t : List Nd} {e : Eg} {p : Nat} {x : Nd} (hp : placeL t e.f = some p) (hx : t[p]? = some x) (hq : placeL t e.t = none) : candL t e = some ⟨e.t, p, wr .i64 (x.c + e.c), e.d⟩ := by
  unfold candL
  rw [hp, hq]
  simp only
  rw [List.getD_eq_getElem?_getD, hx]
  rfl
section
variable {bt : List Nd → Nd → Nd → Bool} {es : List Eg} {t : List Nd}
/-- A Node behind the first one: the edge by which it came. -/
theorem Grown.edge (h : Grown bt es t) {j : Nat} (hj : 1 ≤ j) {n : Nd} (hn : t[j]? = some n) : ∃ e ∈ es, ∃ (p : Nat) (x : Nd), p < j ∧ t[p]? = some x ∧ x.v = e.f ∧ e.t = n.v ∧ n.p = p ∧ n.c = wr .i64 (x.c + e.c) ∧ n.d = e.d ∧ ∀ m ∈ t.take j, m.v ≠ n.v := by
  have hl := (List.getElem?_eq_some_iff.1 hn).1
  have hb := h j hj hl
  rw [hn] at hb
  rcases best_fold hb with hb | ⟨e, he, hc⟩
  · cases hb
  · obtain ⟨p, x, h1, h2, h3, h4, h5⟩ := cand_some hc
    have hpj : p < j := by have := placeL_lt h1; rw [List.length_take] at this; omega
    rw [List.getElem?_take, if_pos hpj] at h2
    subst h5
    exact ⟨e, he, p, x, hpj, h2, h3, rfl, rfl, rfl, rfl, placeL_none h4⟩
/-- No vertex twice. -/
theorem Grown.inj (h : Grown bt es t) {i j : Nat} {a b : Nd} (ha : t[i]? = some a) (hb : t[j]? = some b) (hv : a.v = b.v) : i = j := by
  have key : ∀ {i j : Nat} {a b : Nd}, t[i]? = some a → t[j]? = some b → i < j → a.v ≠ b.v := fun {i j a b} ha hb hij => by
    obtain ⟨_, _, _, _, _, _, _, _, _, _, _, hne⟩ := h.edge (by omega) hb
    refine hne a (List.mem_iff_getElem?.2 ⟨i, ?_⟩)
    rw [List.getElem?_take, if_pos hij]; exact ha
  rcases Nat.lt_trichotomy i j with hij | hij | hij
  · exact absurd hv (key ha hb hij)
  · exact hij
  · exact absurd hv.symm (key hb ha hij)
theorem Grown.place (h : Grown bt es t) {j : Nat} {n : Nd} (hn : t[j]? = some n) : placeL t n.v = some j :=
  placeL_at (fun i hi m hm hv => by have := h.inj hm hn hv; omega) hn rfl
/-- The costs: none below nought, not greater than so many edges. -/
theorem Grown.cost (h : Grown bt es t) {C : Int} (h0 : ∀ n, t[0]? = some n → n.c = 0) (hl : t.length ≤ 100000) (hC : C ≤ 1000000) (hes : ∀ e ∈ es, 0 ≤ e.c ∧ e.c ≤ C) : ∀ (j : Nat) (n : Nd), t[j]? = some n → 0 ≤ n.c ∧ n.c ≤ j * C := by
  intro j
  induction j using Nat.strongRecOn with
  | _ j ih =>
    intro n hn
    rcases Nat.eq_zero_or_pos j with rfl | hj
    · rw [h0 n hn]; simp
    · obtain ⟨e, he, p, x, hp, hx, _, _, _, hc, _⟩ := h.edge hj hn
      obtain ⟨h1, h2⟩ := ih p hp x hx
      obtain ⟨h3, h4⟩ := hes e he
      have hjl := (List.getElem?_eq_some_iff.1 hn).1
      have hpC : (p : Int) * C ≤ (j - 1 : Nat) * C := Int.mul_le_mul_of_nonneg_right (by omega) (by omega)
      have hjC : ((j - 1 : Nat) : Int) * C + C = (j : Int) * C := by
        rw [show ((j - 1 : Nat) : Int) = (j : Int) - 1 from by omega, Int.sub_mul, Int.one_mul]; omega
      have hb : (j : Int) * C ≤ 100000 * 1000000 := Int.le_trans (Int.mul_le_mul_of_nonneg_left hC (by omega)) (Int.mul_le_mul_of_nonneg_right (by omega) (by omega))
      rw [hc, wr_i64 (by omega) (by omega)]
      omega
/-- Who could come next costs no less than who comes. -/
theorem Grown.least (h : Grown bt es t) (hc : Cheap bt) {C : Int} (h0 : ∀ n, t[0]? = some n → n.c = 0) (hl : t.length ≤ 100000) (hC : C ≤ 1000000) (hes : ∀ e ∈ es, 0 ≤ e.c ∧ e.c ≤ C) {e : Eg} (he : e ∈ es) {a j : Nat} {x n : Nd} (haj : a < j) (hx : t[a]? = some x) (hxv : x.v = e.f) (hn : t[j]? = some n) (hnew : ∀ m ∈ t.take j, m.v ≠ e.t) : n.c ≤ x.c + e.c := by
  have hjl := (List.getElem?_eq_some_iff.1 hn).1
  have hb := h j (by omega) hjl
  rw [hn] at hb
  have hxt : (t.take j)[a]? = some x := by rw [List.getElem?_take, if_pos haj]; exact hx
  have hpl : placeL (t.take j) e.f = some a := placeL_at (fun i hi m hm hv => by
    rw [List.getElem?_take] at hm
    split at hm
    · have := h.inj hm hx (hv.trans hxv.symm); omega
    · cases hm) hxt hxv
  have hcand := cand_mk hpl hxt (placeL_no hnew)
  have := (best_least hc hb).2 e he _ hcand
  obtain ⟨c1, c2⟩ := h.cost h0 hl hC hes a x hx
  obtain ⟨c3, c4⟩ := hes e he
  have haC : (a : Int) * C ≤ 100000 * 1000000 := Int.le_trans (Int.mul_le_mul_of_nonneg_left hC (by omega)) (Int.mul_le_mul_of_nonneg_right (by omega) (by omega))
  have this : n.c ≤ wr .i64 (x.c + e.c) := this
  rwa [wr_i64 (by omega) (by omega)] at this
/-- The costs do not fall. -/
theorem Grown.rise1 (h : Grown bt es t) (hc : Cheap bt) {C : Int} (h0 : ∀ n, t[0]? = some n → n.c = 0) (hl : t.length ≤ 100000) (hC : C ≤ 1000000) (hes : ∀ e ∈ es, 0 ≤ e.c ∧ e.c ≤ C) {j : Nat} {x n : Nd} (hx : t[j]? = some x) (hn : t[j + 1]? = some n) : x.c ≤ n.c := by
  obtain ⟨e, he, p, y, hp, hy, hyv, het, _, hcn, _, hne⟩ := h.edge (by omega) hn
  obtain ⟨c1, c2⟩ := h.cost h0 hl hC hes p y hy
  obtain ⟨c3, c4⟩ := hes e he
  have hpl := (List.getElem?_eq_some_iff.1 hy).1
  have haC : (p : Int) * C ≤ 100000 * 1000000 := Int.le_trans (Int.mul_le_mul_of_nonneg_left hC (by omega)) (Int.mul_le_mul_of_nonneg_right (by omega) (by omega))
  rw [hcn, wr_i64 (by omega) (by omega)]
  rcases Nat.lt_or_ge p j with hpj | hpj
  · exact h.least hc h0 hl hC hes he hpj hy hyv hx (fun m hm => by
      rw [het]
      refine hne m ?_
      obtain ⟨i, hi⟩ := List.mem_iff_getElem?.1 hm
      rw [List.getElem?_take] at hi
      split at hi
      · exact List.mem_iff_getElem?.2 ⟨i, by rw [List.getElem?_take, if_pos (by omega)]; exact hi⟩
      · cases hi)
  · have : p = j := by omega
    subst this
    rw [hx] at hy; cases hy; omega
theorem Grown.rise (h : Grown bt es t) (hc : Cheap bt) {C : Int} (h0 : ∀ n, t[0]? = some n → n.c = 0) (hl : t.length ≤ 100000) (hC : C ≤ 1000000) (hes : ∀ e ∈ es, 0 ≤ e.c ∧ e.c ≤ C) {i : Nat} {x : Nd} (hx : t[i]? = some x) : ∀ (d : Nat) (n : Nd), t[i + d]? = some n → x.c ≤ n.c
  | 0, n, hn => by rw [Nat.add_zero, hx] at hn; cases hn; exact Int.le_refl _
  | d + 1, n, hn => by
    have hlt := (List.getElem?_eq_some_iff.1 hn).1
    have hy : t[i + d]? = some t[i + d] := List.getElem?_eq_getElem (by omega)
    exact Int.le_trans (h.rise hc h0 hl hC hes hx d _ hy) (h.rise1 hc h0 hl hC hes hy hn)
/-- No edge makes a way shorter than the tree's. -/
theorem Grown.short (h : Grown bt es t) (hc : Cheap bt) {C : Int} (h0 : ∀ n, t[0]? = some n → n.c = 0) (hl : t.length ≤ 100000) (hC : C ≤ 1000000) (hes : ∀ e ∈ es, 0 ≤ e.c ∧ e.c ≤ C) {e : Eg} (he : e ∈ es) {a b : Nat} {x y : Nd} (hx : t[a]? = some x) (hxv : x.v = e.f) (hy : t[b]? = some y) (hyv : y.v = e.t) : y.c ≤ x.c + e.c := by
  rcases Nat.lt_or_ge a b with hab | hab
  · exact h.least hc h0 hl hC hes he hab hx hxv hy (fun m hm hv => by
      obtain ⟨i, hi⟩ := List.mem_iff_getElem?.1 hm
      rw [List.getElem?_take] at hi
      split at hi
      · have := h.inj hi hy (hv.trans hyv.symm); omega
      · cases hi)
  · have := h.rise hc h0 hl hC hes hy (a - b) x (by rw [show b + (a - b) = a from by omega]; exact hx)
    have := (hes e he).1
    omega
/-- Where nobody is best no edge leads on. -/
theorem closed (hb : bestL bt t es = none) {e : Eg} (he : e ∈ es) {a : Nat} (ha : placeL t e.f = some a) : ∃ b, placeL t e.t = some b := by
  have := (best_none hb).2 e he
  unfold candL at this
  rw [ha] at this
  cases hq : placeL t e.t with
  | none => rw [hq] at this; cases this
  | some b => exact ⟨b, rfl⟩
end
/-- The tree of a map whose edges lie among its vertices ends where nobody is best. -/
theorem tree_end {bt : List Nd → Nd → Nd → Bool} {vs : List Vt} {es : List Eg} {root : Vt} (hr : root ∈ vs) (hto : ∀ e ∈ es, e.t ∈ vs) :
    Grown bt es (treeN bt es vs.length [rootN root]) ∧ (∃ r, treeN bt es vs.length [rootN root] = rootN root :: r) ∧ bestL bt (treeN bt es vs.length [rootN root]) es = none ∧ (∀ n ∈ treeN bt es vs.length [rootN root], n.v ∈ vs) ∧ ((treeN bt es vs.length [rootN root]).map Nd.v).Nodup := by
  obtain ⟨h1, ⟨r, h2⟩, h3⟩ := treeN_grown vs.length [rootN root] (grown_one bt es _)
  have hin : ∀ n ∈ treeN bt es vs.length [rootN root], n.v ∈ vs := fun n hn => by
    obtain ⟨j, hj⟩ := List.mem_iff_getElem?.1 hn
    rcases Nat.eq_zero_or_pos j with rfl | hp
    · rw [h2] at hj
      cases hj
      exact hr
    · obtain ⟨e, he, _, _, _, _, _, hv, _⟩ := h1.edge hp hj
      rw [← hv]; exact hto e he
  have hnd : ((treeN bt es vs.length [rootN root]).map Nd.v).Nodup := by
    refine List.pairwise_iff_getElem.2 (fun i j hi hj hij e => ?_)
    rw [List.length_map] at hi hj
    have := h1.inj (List.getElem?_eq_getElem hi) (List.getElem?_eq_getElem hj) (by simpa using e)
    omega
  refine ⟨h1, ⟨r, by rw [h2]; rfl⟩, ?_, hin, hnd⟩
  rcases h3 with h3 | h3
  · exact h3
  · have := pig hnd (fun x hx => by
      obtain ⟨n, hn, rfl⟩ := List.mem_map.1 hx
      exact hin n hn)
    rw [List.length_map, h3, List.length_singleton] at this
    omega
end Go.Proofs.Ytmocggibcniggaa.Kt
