/- Part of the proofs of this seat's statements: what the functions compute. No condition. -/
import Derived.Test.YtmocggibcniggaaC18N
set_option linter.unusedSimpArgs false
set_option linter.unusedVariables false
namespace Go.Proofs.Ytmocggibcniggaa.Kt
open Go Kw Go.Proofs
def valM (a b : Int) (l : MapL) : Option Value := (lookM a b l).map (·.2)
theorem valM_cons (a b c d : Int) (v : Value) (l : MapL) : valM a b ((c, d, v) :: l) = match keq a b c d with
    | true => some v
    | false => valM a b l := by
  unfold valM
  rw [lookM]
  cases keq a b c d with
  | true => rfl
  | false => cases lookM a b l <;> rfl
theorem keq_comm {a b c d : Int} : keq a b c d = keq c d a b := by
  rw [keq_iff, keq_iff]
  exact decide_eq_decide.2 ⟨fun h => ⟨h.1.symm, h.2.symm⟩, fun h => ⟨h.1.symm, h.2.symm⟩⟩
theorem valM_upd (a b c d : Int) (v : Value) : ∀ (l : MapL), valM a b (updM c d v l) = match keq a b c d with
    | true => some v
    | false => valM a b l
  | [] => by unfold updM; rw [valM_cons]
  | (e, f, x) :: l => by
    unfold updM
    cases h1 : keq c d e f with
    | true =>
      simp only
      rw [valM_cons, valM_cons]
      rw [keq_iff] at h1
      obtain ⟨rfl, rfl⟩ := of_decide_eq_true h1
      cases keq a b c d <;> rfl
    | false =>
      simp only
      rw [valM_cons, valM_cons, valM_upd a b c d v l]
      cases h2 : keq a b e f with
      | false => rfl
      | true =>
        rw [keq_iff] at h2
        obtain ⟨rfl, rfl⟩ := of_decide_eq_true h2
        rw [keq_comm, h1]
def isM (vs : List Vt) : MapL := vs.foldl (fun m v => updM v.k v.i (.bool true) m) []
theorem keq_vt (a b : Vt) : keq a.k a.i b.k b.i = decide (b = a) := by
  rw [keq_iff]
  refine decide_eq_decide.2 ⟨fun h => ?_, fun h => h ▸ ⟨rfl, rfl⟩⟩
  cases a; cases b; simp only [Vt.mk.injEq]; exact ⟨h.1.symm, h.2.symm⟩
theorem isM_fold (v : Vt) : ∀ (vs : List Vt) (m : MapL) (b : Bool), (valM v.k v.i m).getD (.bool false) = .bool b → (valM v.k v.i (vs.foldl (fun m v => updM v.k v.i (.bool true) m) m)).getD (.bool false) = .bool (b || vs.any (fun x => decide (x = v)))
  | [], m, b, h => by simpa using h
  | x :: vs, m, b, h => by
    rw [List.foldl_cons, List.any_cons]
    have := isM_fold v vs (updM x.k x.i (.bool true) m) (b || decide (x = v)) (by
      rw [valM_upd, keq_vt v x]
      by_cases hx : x = v
      · rw [decide_eq_true hx, Bool.or_true]; rfl
      · rw [decide_eq_false hx, Bool.or_false]; exact h)
    rw [this, Bool.or_assoc]
theorem isM_val (v : Vt) (vs : List Vt) : (((lookM v.k v.i (isM vs)).map (·.2)).getD (.bool false)) = .bool (vs.any (fun x => decide (x = v))) := by
  have := isM_fold v vs [] false rfl
  rw [Bool.false_or] at this
  exact this
def pmap : Nat → List Nd → MapL
  | _, [] => []
  | j, n :: t => (n.v.k, n.v.i, .int .i64 j) :: pmap (j + 1) t
theorem pmap_look (v : Vt) : ∀ (t : List Nd) (j : Nat), lookM v.k v.i (pmap j t) = (placeL t v).map (fun p => (p, .int .i64 ((p + j : Nat) : Int)))
  | [], j => rfl
  | n :: t, j => by
    unfold pmap lookM placeL
    rw [keq_vt v n.v, pmap_look v t (j + 1)]
    by_cases h : n.v = v
    · rw [decide_eq_true h, if_pos h]; simp
    · rw [decide_eq_false h, if_neg h]
      simp only
      cases placeL t v with
      | none => rfl
      | some p => simp only [Option.map_some]; rw [show p + (j + 1) = p + 1 + j by omega]
theorem pmap_app : ∀ (t : List Nd) (n : Nd) (j : Nat), pmap j (t ++ [n]) = pmap j t ++ [(n.v.k, n.v.i, .int .i64 ((j + t.length : Nat) : Int))]
  | [], n, j => rfl
  | m :: t, n, j => by
    rw [List.cons_append, pmap, pmap, pmap_app t n (j + 1), List.cons_append, List.length_cons, show j + 1 + t.length = j + (t.length + 1) by omega]
theorem updM_new {a b : Int} {v : Value} : ∀ {l : MapL}, lookM a b l = none → updM a b v l = l ++ [(a, b, v)]
  | [], _ => rfl
  | (c, d, x) :: l, h => by
    unfold lookM at h
    unfold updM
    cases hq : keq a b c d with
    | true => rw [hq] at h; cases h
    | false =>
      rw [hq] at h
      have hl : lookM a b l = none := by
        cases hl : lookM a b l with
        | none => rfl
        | some p => rw [hl] at h; cases h
      simp only
      rw [updM_new hl]; rfl
theorem pmap_upd {t : List Nd} {n : Nd} (h : placeL t n.v = none) : updM n.v.k n.v.i (.int .i64 (t.length : Nat)) (pmap 0 t) = pmap 0 (t ++ [n]) := by
  rw [updM_new (by rw [pmap_look, h]; rfl), pmap_app, Nat.zero_add]
/-! the program's order is the document's -/
def betr (t : List Nd) (a b : Nd) : Bool := ltB (btI (t.getD a.p.toNat zNd).v (t.getD b.p.toNat zNd).v a b) 0
theorem ahead_self (v : Vt) : aheadI v v = 0 := by
  unfold aheadI
  simp [orL, cmp3, wr_i64]
theorem bt_soon {va vb : Vt} {a b : Nd} (h1 : KindOk a.v) (h2 : KindOk b.v) (h3 : KindOk va) (h4 : KindOk vb) (hp : a.p = b.p → va = vb) : ltB (btI va vb a b) 0 = soonF va vb a b := by
  unfold btI soonF
  by_cases hc : a.c = b.c
  · rw [hc]
    simp only [eqB_eq, notB_eq, cmp3, beq_self_eq_true, Int.lt_irrefl, if_false, Bool.not_true]
    by_cases hv : a.v = b.v
    · rw [decide_eq_true hv]
      simp only [Bool.not_true]
      by_cases hpp : a.p = b.p
      · rw [hp hpp, ahead_self, hpp]
        simp [ltB_eq]
      · rw [ahead_first h3 h4]
        have : (a.p == b.p) = false := by simpa using hpp
        rw [this]; rfl
    · rw [decide_eq_false hv]
      simp only [Bool.not_false]
      exact ahead_first h1 h2
  · have h5 : notB (eqB a.c b.c) = true := by rw [notB_eq, eqB_eq]; simpa using hc
    have h6 : notB (eqB (cmp3 a.c b.c) 0) = true := by
      rw [notB_eq, eqB_eq]
      unfold cmp3
      split
      · rfl
      · split
        · rfl
        · omega
    rw [h5, h6]
    simp only [ltB_eq]
    unfold cmp3
    split
    · rename_i h; simp [h]
    · rename_i h
      split <;> simp [h]
end Go.Proofs.Ytmocggibcniggaa.Kt
