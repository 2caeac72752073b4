/- Part of the proofs of this seat's statements: what the functions compute. No condition. -/
import Derived.Test.YtlldjlhjbhkngaaC18Bz
set_option linter.unusedSimpArgs false
set_option linter.unusedVariables false
namespace Go.Proofs.Ytlldjlhjbhkngaa.Kt
open Go Kw Go.Proofs
set_option maxRecDepth 100000
set_option maxHeartbeats 4000000
/-! ### ties: the tree does not hang on the size of the cost -/
def tieX (c i : Int) : Ls := ⟨0, 1, i, i, 0, 0, 0, 0, [⟨1, 1, 100 + i, c⟩, ⟨1, 50, 200 + i, c⟩], 0, [], []⟩
def tieLs (c : Int) (k j : Nat) : List Ls := (List.range j).map (fun m => tieX c ((k : Int) - (m : Nat)))
def tieRk (c : Int) (k j : Nat) : List Lk := (List.range j).map (fun m => ⟨1, (k : Int) - (m : Nat), 300 + ((k : Int) - (m : Nat)), c⟩)
def tieLk (c : Int) (k j : Nat) : List Lk := (List.range j).map (fun m => ⟨1, (k : Int) - (m : Nat), 400 + ((k : Int) - (m : Nat)), c⟩)
def tieN : Ls := ⟨0, 2, 900, 1, 0, 0, 0, 0, [], 24, [1, 50], []⟩
def optL {α : Type} (b : Bool) (x : α) : List α := match b with
  | true => [x]
  | false => []
def ties (c c2 c1 : Int) (k : Nat) (net : Bool) : List Ls := tieLs c k (k - 1) ++ optL net tieN ++ [⟨0, 1, 1, 1, 0, 0, 0, 0, tieRk c k (k - 1) ++ optL net ⟨2, 900, 901, c2⟩, 0, [], []⟩, ⟨0, 1, 50, 50, 0, 0, 0, 0, tieLk c k (k - 1) ++ optL net ⟨2, 900, 902, c1⟩, 0, [], []⟩]
/-- 0, 1, 2 times c. -/
def sc (c m : Int) : Int := if m = 0 then 0 else if m = 1 then c else if m = 2 then 2 * c else 1
def scE (c : Int) (e : Eg) : Eg := ⟨e.f, e.t, sc c e.c, e.d⟩
def scN (c : Int) (n : Nd) : Nd := ⟨n.v, n.p, sc c n.c, n.d⟩
section
variable {c : Int} (hc : 1 ≤ c ∧ c ≤ 256)
include hc
theorem sc_add {x y : Int} (hx : 0 ≤ x) (hy : 0 ≤ y) (h : x + y ≤ 2) : wr .i64 (sc c x + sc c y) = sc c (wr .i64 (x + y)) := by
  rw [wr_i64 (n := x + y) (by omega) (by omega)]
  have h1 : x = 0 ∨ x = 1 ∨ x = 2 := by omega
  have h2 : y = 0 ∨ y = 1 ∨ y = 2 := by omega
  rcases h1 with rfl | rfl | rfl <;> rcases h2 with rfl | rfl | rfl <;> first | omega | (simp only [sc]; simp; rw [wr_i64 (by omega) (by omega)]; try omega)
theorem sc_lt {x y : Int} (hx : 0 ≤ x ∧ x ≤ 2) (hy : 0 ≤ y ∧ y ≤ 2) : (sc c x < sc c y ↔ x < y) ∧ (sc c x = sc c y ↔ x = y) := by
  have h1 : x = 0 ∨ x = 1 ∨ x = 2 := by omega
  have h2 : y = 0 ∨ y = 1 ∨ y = 2 := by omega
  rcases h1 with rfl | rfl | rfl <;> rcases h2 with rfl | rfl | rfl <;> simp [sc] <;> omega
end
theorem place_sc (c : Int) (v : Vt) : ∀ (t : List Nd), placeL (t.map (scN c)) v = placeL t v
  | [] => rfl
  | n :: t => by
    show (if (scN c n).v = v then some 0 else (placeL (t.map (scN c)) v).map (· + 1)) = (if n.v = v then some 0 else (placeL t v).map (· + 1))
    rw [place_sc c v t]
    rfl
/-- What a step of the small tree is to be like. -/
def okC (t : List Nd) (e : Eg) : Bool := match placeL t e.f, placeL t e.t with
  | some p, none => decide (0 ≤ e.c ∧ (t.getD p zNd).c + e.c ≤ 2)
  | _, _ => true
def okS1 (t : List Nd) (es : List Eg) : Bool := es.all (okC t)
def okN (es : List Eg) : Nat → List Nd → Bool
  | 0, _ => true
  | k + 1, t => okS1 t es && match bestL soon t es with
    | none => true
    | some n => okN es k (t ++ [n])
def CostOk (t : List Nd) : Prop := ∀ n ∈ t, 0 ≤ n.c ∧ n.c ≤ 2
section
variable {c : Int} (hc : 1 ≤ c ∧ c ≤ 256) {t : List Nd} (ht : CostOk t)
include hc ht
theorem cand_sc {e : Eg} (h : okC t e = true) : candL (t.map (scN c)) (scE c e) = (candL t e).map (scN c) ∧ ∀ n, candL t e = some n → 0 ≤ n.c ∧ n.c ≤ 2 := by
  cases hc2 : candL t e with
  | none =>
    refine ⟨?_, fun n hn => by cases hn⟩
    unfold candL at hc2 ⊢
    rw [place_sc, place_sc]
    show (match placeL t e.f, placeL t e.t with | some p, none => _ | _, _ => none) = none
    split at hc2
    · cases hc2
    · rename_i hne
      split
      · rename_i p h1 h2
        exact absurd h2 (hne p h1)
      · rfl
  | some n =>
    obtain ⟨p, x, h1, h2, h3, h4, h5⟩ := cand_some hc2
    have hx := ht x (List.mem_of_getElem? h2)
    unfold okC at h
    rw [h1, h4] at h
    simp only [List.getD_eq_getElem?_getD, h2, Option.getD_some] at h
    have h := of_decide_eq_true h
    have hx2 : (t.map (scN c))[p]? = some (scN c x) := by rw [List.getElem?_map, h2]; rfl
    refine ⟨?_, fun n' hn' => ?_⟩
    · rw [cand_mk (e := scE c e) (p := p) (x := scN c x) (by rw [place_sc]; exact h1) hx2 (by rw [place_sc]; exact h4), h5]
      show some (Nd.mk e.t p (wr .i64 (sc c x.c + sc c e.c)) e.d) = some (Nd.mk e.t p (sc c (wr .i64 (x.c + e.c))) e.d)
      rw [sc_add hc hx.1 h.1 h.2]
    · cases hn'
      rw [h5]
      show 0 ≤ wr .i64 (x.c + e.c) ∧ wr .i64 (x.c + e.c) ≤ 2
      rw [wr_i64 (by omega) (by omega)]
      omega
omit ht in
theorem soon_sc {a b : Nd} (ha : 0 ≤ a.c ∧ a.c ≤ 2) (hb : 0 ≤ b.c ∧ b.c ≤ 2) : soon (t.map (scN c)) (scN c a) (scN c b) = soon t a b := by
  have hg : ∀ i : Nat, ((t.map (scN c)).getD i zNd).v = (t.getD i zNd).v := fun i => by
    rw [List.getD_eq_getElem?_getD, List.getD_eq_getElem?_getD, List.getElem?_map]
    cases t[i]? <;> rfl
  unfold soon
  show soonF ((t.map (scN c)).getD a.p.toNat zNd).v ((t.map (scN c)).getD b.p.toNat zNd).v (scN c a) (scN c b) = _
  rw [hg, hg]
  obtain ⟨h1, h2⟩ := sc_lt hc ha hb
  unfold soonF
  have e1 : eqB (scN c a).c (scN c b).c = eqB a.c b.c := by
    rw [eqB_eq, eqB_eq]
    show (sc c a.c == sc c b.c) = (a.c == b.c)
    rw [Bool.eq_iff_iff, beq_iff_eq, beq_iff_eq]
    exact h2
  have e2 : ltB (scN c a).c (scN c b).c = ltB a.c b.c := by
    rw [ltB_eq, ltB_eq]
    exact decide_eq_decide.2 h1
  rw [e1, e2]
  rfl
theorem fold_sc : ∀ {es : List Eg} {m : Option Nd}, okS1 t es = true → (∀ b, m = some b → 0 ≤ b.c ∧ b.c ≤ 2) → (es.map (scE c)).foldl (stepT soon (t.map (scN c))) (m.map (scN c)) = (es.foldl (stepT soon t) m).map (scN c) ∧ ∀ b, es.foldl (stepT soon t) m = some b → 0 ≤ b.c ∧ b.c ≤ 2
  | [], m, _, hm => ⟨rfl, hm⟩
  | e :: es, m, hk, hm => by
    unfold okS1 at hk
    rw [List.all_cons, Bool.and_eq_true] at hk
    obtain ⟨k1, k2⟩ := cand_sc hc ht hk.1
    have hstep : stepT soon (t.map (scN c)) (m.map (scN c)) (scE c e) = (stepT soon t m e).map (scN c) ∧ ∀ b, stepT soon t m e = some b → 0 ≤ b.c ∧ b.c ≤ 2 := by
      unfold stepT
      rw [k1]
      cases hn : candL t e with
      | none => exact ⟨rfl, hm⟩
      | some n =>
        have hnc := k2 n hn
        cases m with
        | none => exact ⟨rfl, fun b hb => by cases hb; exact hnc⟩
        | some b =>
          have hbc := hm b rfl
          show (match soon (t.map (scN c)) (scN c n) (scN c b) with | true => some (scN c n) | false => some (scN c b)) = _ ∧ _
          rw [soon_sc hc hnc hbc]
          simp only
          cases soon t n b with
          | true => exact ⟨rfl, fun b' hb => by cases hb; exact hnc⟩
          | false => exact ⟨rfl, fun b' hb => by cases hb; exact hbc⟩
    rw [List.map_cons, List.foldl_cons, List.foldl_cons, hstep.1]
    exact fold_sc (es := es) hk.2 hstep.2
end
theorem tree_sc {c : Int} (hc : 1 ≤ c ∧ c ≤ 256) {es : List Eg} : ∀ (k : Nat) (t : List Nd), CostOk t → okN es k t = true → treeN soon (es.map (scE c)) k (t.map (scN c)) = (treeN soon es k t).map (scN c)
  | 0, t, _, _ => rfl
  | k + 1, t, ht, hk => by
    unfold okN at hk
    rw [Bool.and_eq_true] at hk
    obtain ⟨h1, h2⟩ := fold_sc hc ht (m := none) hk.1 (fun b hb => by cases hb)
    have h1 : bestL soon (t.map (scN c)) (es.map (scE c)) = (bestL soon t es).map (scN c) := h1
    cases hb : bestL soon t es with
    | none =>
      rw [hb] at h1
      rw [treeN_none hb, treeN_none h1]
    | some n =>
      rw [hb] at h1 hk
      have hn := h2 n hb
      have ih := tree_sc hc k (t ++ [n]) (fun x hx => by
        rcases List.mem_append.1 hx with hx | hx
        · exact ht x hx
        · rw [List.mem_singleton.1 hx]; exact hn) hk.2
      rw [treeN_some hb, treeN_some h1, ← ih, List.map_append]
      rfl
/-- The small tree, and what is asked of it. -/
def tieT (k : Nat) (net : Bool) : List Nd := treeN soon (mapL (ties 1 2 (-1) k net)).es (mapL (ties 1 2 (-1) k net)).vs.length [rootN ⟨1, 1⟩]
def tieAsk (net : Bool) (t : List Nd) : Bool := match placeL t ⟨1, 50⟩ with
  | some a => match t[a]? with
    | some x => decide (1 ≤ a ∧ a + 1 = t.length ∧ x.c = 2 ∧ 0 ≤ x.p) && match t[x.p.toNat]? with
      | some y => match net with
        | true => decide (y.v = ⟨2, 900⟩ ∧ x.d = 902 ∧ x.p.toNat + 2 = t.length)
        | false => decide (y.v = ⟨1, 2⟩ ∧ x.d = 202 ∧ x.p = 1)
      | none => false
    | none => false
  | none => false
structure Tie (net : Bool) (c : Int) (t : List Nd) (a p : Nat) (x y : Nd) : Prop where
  pl : placeL t ⟨1, 50⟩ = some a
  hx : t[a]? = some x
  one : 1 ≤ a
  last : a + 1 = t.length
  cost : x.c = 2 * c
  par : x.p = p
  hy : t[p]? = some y
  yes : net = true → y.v = ⟨2, 900⟩ ∧ x.d = 902 ∧ p + 2 = t.length
  no : net = false → y.v = ⟨1, 2⟩ ∧ x.d = 202 ∧ p = 1
theorem tie_ask {net : Bool} {c : Int} {t : List Nd} (h : tieAsk net t = true) : ∃ a p x y, Tie net c (t.map (scN c)) a p x y := by
  unfold tieAsk at h
  split at h
  · rename_i a ha
    split at h
    · rename_i x hx
      rw [Bool.and_eq_true] at h
      obtain ⟨h1, h2⟩ := h
      have h1 := of_decide_eq_true h1
      split at h2
      · rename_i y hy
        refine ⟨a, x.p.toNat, scN c x, scN c y, by rw [place_sc]; exact ha, by rw [List.getElem?_map, hx]; rfl, h1.1, by rw [List.length_map]; exact h1.2.1, ?_, ?_, by rw [List.getElem?_map, hy]; rfl, fun hn => ?_, fun hn => ?_⟩
        · show sc c x.c = _
          rw [h1.2.2.1]; rfl
        · show x.p = _
          omega
        · subst hn
          have h2 := of_decide_eq_true h2
          exact ⟨h2.1, h2.2.1, by rw [List.length_map]; exact h2.2.2⟩
        · subst hn
          have h2 := of_decide_eq_true h2
          exact ⟨h2.1, h2.2.1, by omega⟩
      · cases h2
    · cases h
  · cases h
theorem tie_of {k : Nat} {net : Bool} {c : Int} (hc : 1 ≤ c ∧ c ≤ 256) (h1 : (mapL (ties c (2 * c) 1 k net)).es = (mapL (ties 1 2 (-1) k net)).es.map (scE c)) (h2 : (mapL (ties c (2 * c) 1 k net)).vs = (mapL (ties 1 2 (-1) k net)).vs) (h3 : (mapL (ties 1 2 (-1) k net)).vs.any (fun x => decide (x = ⟨1, 1⟩)) = true) (h4 : okN (mapL (ties 1 2 (-1) k net)).es (mapL (ties 1 2 (-1) k net)).vs.length [rootN ⟨1, 1⟩] = true) (h5 : tieAsk net (tieT k net) = true) : ∃ a p x y, Tie net c (refTree (mapL (ties c (2 * c) 1 k net)) ⟨1, 1⟩) a p x y := by
  have : refTree (mapL (ties c (2 * c) 1 k net)) ⟨1, 1⟩ = (tieT k net).map (scN c) := by
    unfold refTree
    rw [h2, h3, h1]
    exact tree_sc hc _ [rootN ⟨1, 1⟩] (fun n hn => by
      rw [List.mem_singleton.1 hn]
      exact ⟨Int.le_refl _, by decide⟩) h4
  rw [this]
  exact tie_ask h5
end Go.Proofs.Ytlldjlhjbhkngaa.Kt
