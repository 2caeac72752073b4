/- Part of the proofs of this seat's statements: what the functions compute. No condition. -/
import Derived.Test.YtmocggibcniggaaG1
import Derived.Test.YtmocggibcniggaaK4
import Derived.Test.YtmocggibcniggaaK3
import Derived.Test.YtmocggibcniggaaRows
set_option linter.unusedSimpArgs false
set_option linter.unusedVariables false
namespace Go.Proofs.Ytmocggibcniggaa.Kt
open Go Kw Go.Proofs
attribute [local irreducible] Kw.GI Kw.GR Kw.FnR Kw.FnX
set_option maxHeartbeats 8000000
set_option maxRecDepth 100000
def placeL : List Nd → Vt → Option Nat
  | [], _ => none
  | n :: l, v => if n.v = v then some 0 else (placeL l v).map (· + 1)
def placeI : Option Nat → Int
  | some i => i
  | none => -1
theorem placeL_at {v : Vt} : ∀ {t : List Nd} {j : Nat} {n : Nd}, (∀ i, i < j → ∀ m, t[i]? = some m → m.v ≠ v) → t[j]? = some n → n.v = v → placeL t v = some j
  | [], j, n, _, h, _ => by simp at h
  | x :: t, 0, n, _, h, hv => by
    simp at h; subst h
    unfold placeL; rw [if_pos hv]
  | x :: t, j + 1, n, hn, h, hv => by
    have := hn 0 (by omega) x rfl
    unfold placeL
    rw [if_neg this, placeL_at (t := t) (fun i hi m hm => hn (i + 1) (Nat.succ_lt_succ hi) m (by simpa using hm)) (by simpa using h) hv]
    rfl
theorem placeL_no {v : Vt} : ∀ {t : List Nd}, (∀ n ∈ t, n.v ≠ v) → placeL t v = none
  | [], _ => rfl
  | x :: t, h => by
    unfold placeL
    rw [if_neg (h x (List.mem_cons_self ..)), placeL_no (fun n hn => h n (List.mem_cons_of_mem _ hn))]
    rfl
theorem placeL_some {v : Vt} : ∀ {t : List Nd} {j : Nat}, placeL t v = some j → ∃ n, t[j]? = some n ∧ n.v = v
  | [], j, h => by cases h
  | x :: t, j, h => by
    unfold placeL at h
    split at h
    · rename_i hx
      cases h; exact ⟨x, rfl, hx⟩
    · cases ht : placeL t v with
      | none => rw [ht] at h; cases h
      | some i =>
        rw [ht] at h
        have : i + 1 = j := Option.some.inj h
        subst this
        obtain ⟨n, h1, h2⟩ := placeL_some ht
        exact ⟨n, by simpa using h1, h2⟩
theorem placeL_none {v : Vt} {t : List Nd} (h : placeL t v = none) : ∀ n ∈ t, n.v ≠ v := by
  induction t with
  | nil => intro n hn; cases hn
  | cons x t ih =>
    unfold placeL at h
    split at h
    · cases h
    · rename_i hx
      intro n hn
      cases ht : placeL t v with
      | none =>
        rcases List.mem_cons.1 hn with rfl | hn
        · exact hx
        · exact ih ht n hn
      | some i => rw [ht] at h; cases h
theorem placeL_lt {v : Vt} {t : List Nd} {j : Nat} (h : placeL t v = some j) : j < t.length := by
  obtain ⟨n, h1, _⟩ := placeL_some h
  exact (List.getElem?_eq_some_iff.1 h1).1
abbrev rsNd (l : List Nd) : AV := .r (.rs 5 (l.map Nd.row))
theorem Place_ok (t : List Nd) (v : Vt) (hl : t.length < 1000000) : FnR Try.prog 38 [rsNd t, v.av] (RI (placeI (placeL t v))) := by
  refine fnR_intro (T := TT) (n := 20) Try.func38 rfl rfl rfl (fun w Z => ?_)
  (repeat (first | refine r_end ?_ | (refine r_op ?_; first | refine r_pure hT rfl rfl rfl rfl rfl rfl ?_ | refine r_box rfl rfl rfl rfl rfl rfl rfl rfl rfl ?_) | refine gi_seq ?_ | refine gi_plain ?_ | refine gi_block ?_))
  refine gi_loop (σ := Nat) (fun j => [(5, I j), (3, .box 0 0), (0, rsNd t)]) (fun _ => [hV v]) (fun _ => []) (fun j => j ≤ t.length ∧ ∀ i, i < j → ∀ m, t[i]? = some m → m.v ≠ v) (fun j => t.length - j) 0 ⟨Nat.zero_le _, fun i h => absurd h (Nat.not_lt_zero _)⟩ ⟨rfl, rfl, rfl, trivial⟩ ⟨rfl, trivial⟩ trivial (fun _ => rfl) (fun j hj next => ?_)
  obtain ⟨hj, hn⟩ := hj
  (repeat (first | refine r_end ?_ | (refine r_op ?_; refine r_pure hT rfl rfl rfl rfl rfl rfl ?_) | refine gi_seq ?_ | refine gi_plain ?_))
  refine gi_lt (q := ((t.map Nd.row).length : Int)) rfl (fun h3 => ?_) (fun h3 => ?_)
  · rw [List.length_map] at h3
    have hjl : j < t.length := by omega
    obtain ⟨x, hx⟩ : ∃ x, t[j]? = some x := ⟨_, List.getElem?_eq_getElem hjl⟩
    (repeat (first | refine gi_seq ?_ | refine gi_skip ?_ | refine gi_block ?_))
    refine gi_drawM [] [(0, .p), (1, .p), (2, .p), (3, .p), (4, .t), (5, .t), (6, .p)] [0, 0, 3, 4, 8, 0, 48] [0, 0, 3, 4, 8, 0, 48] hm rfl (by kernel_rfl) (fun w1 K => ?_)
    (repeat ((refine r_op ?_; refine r_pure hT rfl rfl rfl rfl rfl rfl ?_)))
    refine r_idx (row := x.row) hT rfl rfl rfl rfl rfl rfl rfl rfl rfl rfl rfl rfl (by omega) (by simp [hx]) ?_
    (repeat ((refine r_op ?_; first | refine r_pure hT rfl rfl rfl rfl rfl rfl ?_ | refine r_load hT rfl rfl rfl rfl rfl rfl rfl rfl rfl ?_)))
    refine r_eqT _ rfl rfl rfl rfl rfl rfl rfl rfl rfl y_flat_Vt ?_
    (repeat (refine r_end ?_))
    refine gi_cond rfl (fun c4 => ?_) (fun c4 => ?_)
    · rw [veq_eq x.v v] at c4
      have hp := placeL_at hn hx (of_decide_eq_true c4)
      (repeat (first | refine r_end ?_ | (refine r_op ?_; refine r_pure hT rfl rfl rfl rfl rfl rfl ?_) | refine gi_seq ?_ | refine gi_plain ?_))
      refine gi_retW hT Try.func38 rfl rfl [] rfl rfl rfl rfl ?_
      rw [hp]
      exact ⟨rfl, rfl⟩
    · rw [veq_eq x.v v] at c4
      have hne := of_decide_eq_false c4
      (repeat (first | refine r_end ?_ | (refine r_op ?_; refine r_pure hT rfl rfl rfl rfl rfl rfl ?_) | refine gi_plain ?_ | refine gi_skip ?_ | refine gi_inBlock ?_))
      refine next (j + 1) _ _ _ ⟨hjl, fun i hi m hm => ?_⟩ (by omega) ⟨?_, rfl, rfl, trivial⟩ ⟨rfl, trivial⟩ trivial
      · rcases Nat.lt_succ_iff_lt_or_eq.1 hi with hi | rfl
        · exact hn i hi m hm
        · rw [hx] at hm; cases hm; exact hne
      · show some (I (wr .i64 ((j : Int) + 1))) = _
        rw [wr_i64 (by omega) (by omega)]
        simp
  · rw [List.length_map] at h3
    have hp : placeL t v = none := placeL_no (fun n hm => by
      obtain ⟨i, hi⟩ := List.mem_iff_getElem?.1 hm
      exact hn i (by have := (List.getElem?_eq_some_iff.1 hi).1; omega) n hi)
    (repeat (first | refine r_end ?_ | (refine r_op ?_; refine r_pure hT rfl rfl rfl rfl rfl rfl ?_) | refine gi_seq ?_ | refine gi_plain ?_ | refine gi_exit rfl ?_))
    refine gi_retW hT Try.func38 rfl rfl [] rfl rfl rfl rfl ?_
    rw [hp]
    exact ⟨rfl, rfl⟩
def firstB (a b : Vt) : Bool := match notB (eqB a.k b.k) with
  | true => eqB a.k 2
  | false => ltB a.i b.i
theorem first_ok (a b : Vt) : FnR Try.prog 96 [a.av, b.av] (RB (firstB a b)) := by
  refine fnR_intro (T := TT) (n := 18) Try.func96 rfl rfl rfl (fun w Z => ?_)
  (repeat (first | refine r_end ?_ | (refine r_op ?_; first | refine r_pure hT rfl rfl rfl rfl rfl rfl ?_ | refine r_load hT rfl rfl rfl rfl rfl rfl rfl rfl rfl ?_ | refine r_box rfl rfl rfl rfl rfl rfl rfl rfl rfl ?_) | refine gi_seq ?_ | refine gi_plain ?_))
  refine gi_cond rfl (fun c => ?_) (fun c => ?_)
  · (repeat (first | refine r_end ?_ | (refine r_op ?_; first | refine r_pure hT rfl rfl rfl rfl rfl rfl ?_ | refine r_load hT rfl rfl rfl rfl rfl rfl rfl rfl rfl ?_) | refine gi_seq ?_ | refine gi_plain ?_))
    refine gi_retW hT Try.func96 rfl rfl [] rfl rfl rfl rfl ?_
    exact ⟨by unfold firstB; rw [c], rfl⟩
  · (repeat (first | refine r_end ?_ | (refine r_op ?_; first | refine r_pure hT rfl rfl rfl rfl rfl rfl ?_ | refine r_load hT rfl rfl rfl rfl rfl rfl rfl rfl rfl ?_) | refine gi_seq ?_ | refine gi_plain ?_ | refine gi_skip ?_))
    refine gi_retW hT Try.func96 rfl rfl [] rfl rfl rfl rfl ?_
    exact ⟨by unfold firstB; rw [c], rfl⟩
def zNd : Nd := ⟨⟨0, 0⟩, 0, 0, 0⟩
def soonF (va vb : Vt) (a b : Nd) : Bool := match notB (eqB a.c b.c) with
  | true => ltB a.c b.c
  | false => match notB (decide (a.v = b.v)) with
    | true => firstB a.v b.v
    | false => match notB (eqB a.p b.p) with
      | true => firstB va vb
      | false => false
theorem sooner_ok (t : List Nd) (a b : Nd) (hl : t.length < 1000000) (na nb : Nd) (pa pb : Nat) (ha : a.p = pa) (hb : b.p = pb) (h1 : t[pa]? = some na) (h2 : t[pb]? = some nb) : FnR Try.prog 80 [rsNd t, a.av, b.av] (RB (soonF na.v nb.v a b)) := by
  have hal := (List.getElem?_eq_some_iff.1 h1).1
  have hbl := (List.getElem?_eq_some_iff.1 h2).1
  refine fnR_intro (T := TT) (n := 45) Try.func80 rfl rfl rfl (fun w Z => ?_)
  (repeat (first | refine r_end ?_ | (refine r_op ?_; first | refine r_pure hT rfl rfl rfl rfl rfl rfl ?_ | refine r_load hT rfl rfl rfl rfl rfl rfl rfl rfl rfl ?_ | refine r_box rfl rfl rfl rfl rfl rfl rfl rfl rfl ?_) | refine gi_seq ?_ | refine gi_plain ?_))
  refine gi_cond rfl (fun c => ?_) (fun c => ?_)
  · (repeat (first | refine r_end ?_ | (refine r_op ?_; first | refine r_pure hT rfl rfl rfl rfl rfl rfl ?_ | refine r_load hT rfl rfl rfl rfl rfl rfl rfl rfl rfl ?_) | refine gi_seq ?_ | refine gi_plain ?_))
    refine gi_retW hT Try.func80 rfl rfl [] rfl rfl rfl rfl ?_
    exact ⟨by unfold soonF; rw [c], rfl⟩
  (repeat (first | (refine r_op ?_; first | refine r_pure hT rfl rfl rfl rfl rfl rfl ?_ | refine r_load hT rfl rfl rfl rfl rfl rfl rfl rfl rfl ?_) | refine gi_seq ?_ | refine gi_plain ?_ | refine gi_skip ?_))
  refine r_neT _ rfl rfl rfl rfl rfl rfl rfl rfl rfl y_flat_Vt ?_
  (repeat (refine r_end ?_))
  refine gi_cond rfl (fun c2 => ?_) (fun c2 => ?_)
  · rw [veq_eq a.v b.v] at c2
    (repeat (first | (refine r_op ?_; first | refine r_pure hT rfl rfl rfl rfl rfl rfl ?_ | refine r_load hT rfl rfl rfl rfl rfl rfl rfl rfl rfl ?_) | refine gi_seq ?_ | refine gi_plain ?_))
    refine r_call (first_ok a.v b.v) rfl rfl rfl rfl rfl rfl rfl rfl Try.func96 rfl rfl rfl pB ?_
    rintro r S1 ⟨rfl, rfl⟩
    (repeat (first | refine r_end ?_ | (refine r_op ?_; refine r_pure hT rfl rfl rfl rfl rfl rfl ?_)))
    refine gi_retW hT Try.func80 rfl rfl [] rfl rfl rfl rfl ?_
    exact ⟨by unfold soonF; rw [c, c2], rfl⟩
  rw [veq_eq a.v b.v] at c2
  (repeat (first | refine r_end ?_ | (refine r_op ?_; first | refine r_pure hT rfl rfl rfl rfl rfl rfl ?_ | refine r_load hT rfl rfl rfl rfl rfl rfl rfl rfl rfl ?_) | refine gi_seq ?_ | refine gi_plain ?_ | refine gi_skip ?_))
  refine gi_cond rfl (fun c3 => ?_) (fun c3 => ?_)
  · (repeat (refine gi_seq ?_))
    refine gi_drawM [] [(0, .p), (1, .p), (6, .p), (7, .p), (2, .t), (3, .p), (4, .p), (5, .t), (8, .t), (9, .p), (10, .p), (11, .t), (12, .o), (13, .p)] [0, 0, 2, 5, 8, 16, 0, 0, 128, 320, 512, 1024, 2080, 8191] [0, 0, 2, 5, 8, 16, 0, 0, 128, 320, 512, 1024, 2080, 4096] hm rfl (by kernel_rfl) (fun w1 K => ?_)
    (repeat ((refine r_op ?_; first | refine r_pure hT rfl rfl rfl rfl rfl rfl ?_ | refine r_load hT rfl rfl rfl rfl rfl rfl rfl rfl rfl ?_)))
    refine r_turn (d := 34) (y := I (pa : Int)) rfl (by rw [← ha]) ?_
    refine r_idx (row := na.row) hT rfl rfl rfl rfl rfl rfl rfl rfl rfl rfl rfl rfl (by omega) (by simp [h1]) ?_
    (repeat ((refine r_op ?_; first | refine r_pure hT rfl rfl rfl rfl rfl rfl ?_ | refine r_load hT rfl rfl rfl rfl rfl rfl rfl rfl rfl ?_)))
    refine r_turn (d := 40) (y := I (pb : Int)) rfl (by rw [← hb]) ?_
    refine r_idx (row := nb.row) hT rfl rfl rfl rfl rfl rfl rfl rfl rfl rfl rfl rfl (by omega) (by simp [h2]) ?_
    (repeat ((refine r_op ?_; first | refine r_pure hT rfl rfl rfl rfl rfl rfl ?_ | refine r_load hT rfl rfl rfl rfl rfl rfl rfl rfl rfl ?_)))
    refine r_call (first_ok na.v nb.v) rfl rfl rfl rfl rfl rfl rfl rfl Try.func96 rfl rfl rfl pB ?_
    rintro r S1 ⟨rfl, rfl⟩
    (repeat (first | refine r_end ?_ | (refine r_op ?_; refine r_pure hT rfl rfl rfl rfl rfl rfl ?_)))
    refine gi_retW hT Try.func80 rfl rfl [] rfl rfl rfl rfl ?_
    exact ⟨by unfold soonF; rw [c, c2, c3], rfl⟩
  · (repeat (first | refine r_end ?_ | (refine r_op ?_; refine r_pure hT rfl rfl rfl rfl rfl rfl ?_) | refine gi_seq ?_ | refine gi_plain ?_ | refine gi_skip ?_))
    refine gi_retW hT Try.func80 rfl rfl [] rfl rfl rfl rfl ?_
    exact ⟨by unfold soonF; rw [c, c2, c3], rfl⟩
end Go.Proofs.Ytmocggibcniggaa.Kt
namespace Go.Proofs.Ytmocggibcniggaa.Kt
open Go Kw Go.Proofs
attribute [local irreducible] Kw.GI Kw.GR Kw.FnR Kw.FnX
set_option maxHeartbeats 8000000
set_option maxRecDepth 100000
def candL (t : List Nd) (e : Eg) : Option Nd := match placeL t e.f, placeL t e.t with
  | some p, none => some ⟨e.t, p, wr .i64 ((t.getD p zNd).c + e.c), e.d⟩
  | _, _ => none
def soon (t : List Nd) (a b : Nd) : Bool := soonF (t.getD a.p.toNat zNd).v (t.getD b.p.toNat zNd).v a b
def stepT (bt : List Nd → Nd → Nd → Bool) (t : List Nd) (m : Option Nd) (e : Eg) : Option Nd := match candL t e with
  | none => m
  | some n => match m with
    | none => some n
    | some b => match bt t n b with
      | true => some n
      | false => some b
def bestL (bt : List Nd → Nd → Nd → Bool) (t : List Nd) (es : List Eg) : Option Nd := es.foldl (stepT bt t) none
def treeN (bt : List Nd → Nd → Nd → Bool) (es : List Eg) : Nat → List Nd → List Nd
  | 0, t => t
  | k + 1, t => match bestL bt t es with
    | none => t
    | some n => treeN bt es k (t ++ [n])
theorem treeN_none {bt : List Nd → Nd → Nd → Bool} {es : List Eg} {k : Nat} {t : List Nd} (h : bestL bt t es = none) : treeN bt es (k + 1) t = t := by rw [treeN, h]
theorem treeN_some {bt : List Nd → Nd → Nd → Bool} {es : List Eg} {k : Nat} {t : List Nd} {n : Nd} (h : bestL bt t es = some n) : treeN bt es (k + 1) t = treeN bt es k (t ++ [n]) := by rw [treeN, h]
def rootN (v : Vt) : Nd := ⟨v, -1, 0, 0⟩
def refTree (m : Mp) (root : Vt) : List Nd := match m.vs.any (fun x => decide (x = root)) with
  | true => treeN soon m.es m.vs.length [rootN root]
  | false => []
def GoodN (t : List Nd) (n : Nd) : Prop := ∃ p : Nat, n.p = p ∧ p < t.length
theorem cand_good {t : List Nd} {e : Eg} {n : Nd} (h : candL t e = some n) : GoodN t n := by
  unfold candL at h
  split at h
  · rename_i p hp _
    cases h
    exact ⟨p, rfl, placeL_lt hp⟩
  · cases h
theorem step_good {bt : List Nd → Nd → Nd → Bool} {t : List Nd} {m : Option Nd} {e : Eg} (hm : ∀ b, m = some b → GoodN t b) : ∀ b, stepT bt t m e = some b → GoodN t b := by
  intro b h
  unfold stepT at h
  split at h
  · exact hm b h
  · rename_i n hn
    split at h
    · cases h; exact cand_good hn
    · rename_i b'
      split at h
      · cases h; exact cand_good hn
      · exact hm b h
theorem best_good {bt : List Nd → Nd → Nd → Bool} {t : List Nd} : ∀ {es : List Eg} {m : Option Nd}, (∀ b, m = some b → GoodN t b) → ∀ b, es.foldl (stepT bt t) m = some b → GoodN t b
  | [], m, hm, b, h => hm b h
  | e :: es, m, hm, b, h => best_good (es := es) (step_good (e := e) hm) b h
abbrev avMf (m : Mp) : AV := .agg [.r (.fs 2 (m.vs.map Vt.row)), .r (.fs 6 (m.es.map Eg.row)), .r (.fs 4 (m.sb.map Sb.row)), .r (.fs 4 (m.sn.map Sn.row)), .r (.fs 1 (m.wl.map nRow))]
abbrev hMf (m : Mp) : Option (TypeId × List AV) := some (31, [.r (.fs 2 (m.vs.map Vt.row)), .r (.fs 6 (m.es.map Eg.row)), .r (.fs 4 (m.sb.map Sb.row)), .r (.fs 4 (m.sn.map Sn.row)), .r (.fs 1 (m.wl.map nRow))])
abbrev hEg (e : Eg) : Option (TypeId × List AV) := some (69, [I e.f.k, I e.f.i, I e.t.k, I e.t.i, I e.c, I e.d])
abbrev hNd (n : Nd) : Option (TypeId × List AV) := some (58, [I n.v.k, I n.v.i, I n.p, I n.c, I n.d])
def noN : Nd := ⟨⟨0, 0⟩, -1, 0, 0⟩
theorem any_take {α : Type} (p : α → Bool) {l : List α} {j : Nat} {x : α} (h : l[j]? = some x) : (l.take (j + 1)).any p = ((l.take j).any p || p x) := by
  rw [take_snoc h, List.any_append]; simp
theorem eNd_ap (a b : List Nd) : eNd (a ++ b) = some (⟨58, 5, a.map Nd.row ++ b.map Nd.row, false⟩ : SE) := by rw [eNd, List.map_append]
theorem placeI_lt (o : Option Nat) : ltB (placeI o) 0 = !o.isSome := by
  rw [ltB_eq]
  cases o with
  | none => rfl
  | some i => exact decide_eq_false (by show ¬ ((i : Nat) : Int) < 0; omega)
theorem placeI_ge (o : Option Nat) : leB 0 (placeI o) = o.isSome := by
  rw [leB_eq]
  cases o with
  | none => rfl
  | some i => exact decide_eq_true (by show (0 : Int) ≤ ((i : Nat) : Int); omega)
theorem stLL_Nd : ∀ (l : List Nd), stLL (l.map Nd.row) = true
  | [] => rfl
  | c :: l => by
    show (stL (Nd.row c) && stLL (l.map Nd.row)) = true
    rw [stLL_Nd l]; rfl
theorem pNd {l : List Nd} : ∀ r H1 S1, RV1 (eNd l) r H1 S1 → stA r = true ∧ StH H1 ∧ StS S1 := by
  rintro r H S ⟨rfl, rfl, rfl⟩
  refine ⟨rfl, StH.nil, fun e he s hs => ?_⟩
  rw [List.mem_singleton.1 he] at hs
  cases hs
  exact stLL_Nd l
theorem rTree_ok (m : Mp) (root : Vt) (hv : m.vs.length ≤ 10000) (he : m.es.length ≤ 10000000) : FnX Try.prog 50 [avMf m, root.av] [] [] (RV1 (eNd (refTree m root))) := by
  refine fnX_intro (T := TT) (n := 99) Try.func50 rfl rfl rfl (fun w X Z Y B => ?_)
  (repeat (first | refine r_end ?_ | (refine r_op ?_; first | refine r_pure hT rfl rfl rfl rfl rfl rfl ?_ | refine r_box rfl rfl rfl rfl rfl rfl rfl rfl rfl ?_) | refine gi_seq ?_ | refine gi_plain ?_ | refine gi_block ?_))
  apply gi_cut (σ := Unit) (fun _ => [(5, Bo (m.vs.any (fun x => decide (x = root)))), (3, .box 1 0), (2, .box 0 0), (4, nilA)]) (fun _ => [hMf m, hV root]) (fun _ => []) (fun _ => True) (fun _ => rfl)
  case first =>
    intro fin
    refine gi_loop (σ := Nat) (fun j => [(6, I j), (5, Bo ((m.vs.take j).any (fun x => decide (x = root)))), (3, .box 1 0), (2, .box 0 0), (4, nilA)]) (fun _ => [hMf m, hV root]) (fun _ => []) (fun j => j ≤ m.vs.length) (fun j => m.vs.length - j) 0 (Nat.zero_le _) ⟨rfl, rfl, rfl, rfl, rfl, trivial⟩ ⟨rfl, rfl, trivial⟩ trivial (fun _ => rfl) (fun j hj next => ?_)
    have hj : j ≤ m.vs.length := hj
    (repeat (first | refine r_end ?_ | (refine r_op ?_; first | refine r_pure hT rfl rfl rfl rfl rfl rfl ?_ | refine r_load hT rfl rfl rfl rfl rfl rfl rfl rfl rfl ?_) | refine gi_seq ?_ | refine gi_plain ?_))
    refine gi_lt (q := ((m.vs.map Vt.row).length : Int)) rfl (fun h3 => ?_) (fun h3 => ?_)
    · rw [List.length_map] at h3
      have hjl : j < m.vs.length := by omega
      obtain ⟨x, hx⟩ : ∃ x, m.vs[j]? = some x := ⟨_, List.getElem?_eq_getElem hjl⟩
      have hat := any_take (fun x => decide (x = root)) hx
      have nx : ∀ b, b = ((m.vs.take j).any (fun x => decide (x = root)) || decide (x = root)) → ∀ F1 H1 S1, SubF [(6, I (wr .i64 ((j : Int) + 1))), (5, Bo b), (3, .box 1 0), (2, .box 0 0), (4, nilA)] F1 → SubH [hMf m, hV root] H1 → SubS [] S1 → GI _ _ F1 H1 S1 := fun b hb F1 H1 S1 hF hH hS => by
        refine next (j + 1) F1 H1 S1 hjl (by omega) ?_ hH hS
        rw [hat, ← hb]
        rw [wr_i64 (by omega) (by omega)] at hF
        simpa using hF
      (repeat (first | refine gi_seq ?_ | refine gi_skip ?_ | refine gi_block ?_))
      refine gi_drawM [] [(0, .p), (1, .p), (2, .p), (4, .p), (3, .t), (5, .p), (6, .t), (7, .t), (8, .p), (9, .p), (10, .p)] [0, 1, 2, 6, 2, 26, 34, 2, 194, 258, 1023] [0, 1, 2, 6, 2, 26, 34, 2, 194, 258, 513] hm rfl (by kernel_rfl) (fun w1 K => ?_)
      (repeat ((refine r_op ?_; refine r_pure hT rfl rfl rfl rfl rfl rfl ?_)))
      refine r_case (d := 21) rfl (fun c1 => ?_) (fun c1 => ?_)
      · (repeat (first | refine r_end ?_ | (refine r_op ?_; first | refine r_pure hT rfl rfl rfl rfl rfl rfl ?_ | refine r_off rfl rfl rfl rfl rfl ?_) | refine gi_plain ?_ | refine gi_inBlock ?_))
        exact nx true (by rw [c1]; rfl) _ _ _ ⟨rfl, rfl, rfl, rfl, rfl, trivial⟩ ⟨rfl, rfl, trivial⟩ trivial
      · (repeat ((refine r_op ?_; first | refine r_pure hT rfl rfl rfl rfl rfl rfl ?_ | refine r_load hT rfl rfl rfl rfl rfl rfl rfl rfl rfl ?_)))
        refine r_thaw 23 rfl ?_
        refine r_idx (row := x.row) hT rfl rfl rfl rfl rfl rfl rfl rfl rfl rfl rfl rfl (by omega) (by simp [hx]) ?_
        (repeat ((refine r_op ?_; refine r_load hT rfl rfl rfl rfl rfl rfl rfl rfl rfl ?_)))
        refine r_eqT _ rfl rfl rfl rfl rfl rfl rfl rfl rfl y_flat_Vt ?_
        (repeat (first | refine r_end ?_ | (refine r_op ?_; refine r_pure hT rfl rfl rfl rfl rfl rfl ?_) | refine gi_plain ?_ | refine gi_inBlock ?_))
        exact nx _ (by rw [c1, Bool.false_or]; exact veq_eq x root) _ _ _ ⟨rfl, rfl, rfl, rfl, rfl, trivial⟩ ⟨rfl, rfl, trivial⟩ trivial
    · rw [List.length_map] at h3
      have hjl : j = m.vs.length := by omega
      subst hjl
      rw [List.take_length]
      (repeat (first | refine gi_seq ?_ | refine gi_exit rfl ?_))
      exact fin () _ _ _ trivial ⟨rfl, rfl, rfl, rfl, trivial⟩ ⟨rfl, rfl, trivial⟩ trivial
  case after =>
    intro _ _
    (repeat (first | refine r_end ?_ | (refine r_op ?_; refine r_pure hT rfl rfl rfl rfl rfl rfl ?_) | refine gi_plain ?_))
    refine gi_cond rfl (fun c0 => ?_) (fun c0 => ?_)
    · rw [notB_eq, Bool.not_eq_true'] at c0
      have hrt : refTree m root = [] := by unfold refTree; rw [c0]
      (repeat (first | refine r_end ?_ | (refine r_op ?_; refine r_pure hT rfl rfl rfl rfl rfl rfl ?_) | refine gi_seq ?_ | refine gi_plain ?_))
      refine gi_adopt (e := 58) (sz := 5) 4 rfl ?_
      refine gi_retX hT Try.func50 rfl [] [0] rfl rfl rfl rfl rfl rfl rfl rfl ?_
      exact ⟨rfl, rfl, by rw [hrt]; rfl⟩
    rw [notB_eq, Bool.not_eq_false'] at c0
    have hrt : refTree m root = treeN soon m.es m.vs.length [rootN root] := by unfold refTree; rw [c0]
    (repeat (first | refine r_end ?_ | (refine r_op ?_; first | refine r_pure hT rfl rfl rfl rfl rfl rfl ?_ | refine r_load hT rfl rfl rfl rfl rfl rfl rfl rfl rfl ?_ | refine r_lit hT rfl rfl rfl rfl rfl rfl rfl rfl rfl rfl rfl rfl rfl ?_) | refine gi_seq ?_ | refine gi_plain ?_ | refine gi_skip ?_ | refine gi_block ?_))
    refine gi_loop (σ := Nat × List Nd) (fun _ => [(7, .sl 0), (3, .box 1 0), (2, .box 0 0)]) (fun _ => [hMf m, hV root]) (fun s => [eNd s.2]) (fun s => treeN soon m.es s.1 s.2 = refTree m root ∧ s.2.length + s.1 = m.vs.length + 1) (fun s => s.1) (m.vs.length, [rootN root]) ⟨hrt.symm, by simp only [List.length_cons, List.length_nil]; omega⟩ ⟨rfl, rfl, rfl, trivial⟩ ⟨rfl, rfl, trivial⟩ ⟨rfl, trivial⟩ (fun _ => rfl) (fun s hs next => ?_)
    obtain ⟨k, t⟩ := s
    obtain ⟨ht, hk⟩ := hs
    simp only at ht hk
    have htl : t.length < 1000000 := by omega
    (repeat (first | refine r_end ?_ | (refine r_op ?_; first | refine r_pure hT rfl rfl rfl rfl rfl rfl ?_ | refine r_load hT rfl rfl rfl rfl rfl rfl rfl rfl rfl ?_) | refine gi_seq ?_ | refine gi_plain ?_))
    refine gi_le (p := ((t.map Nd.row).length : Int)) (q := ((m.vs.map Vt.row).length : Int)) rfl (fun h3 => ?_) (fun h3 => ?_)
    · rw [List.length_map, List.length_map] at h3
      obtain ⟨k', rfl⟩ : ∃ k', k = k' + 1 := ⟨k - 1, by omega⟩
      (repeat (first | refine r_end ?_ | (refine r_op ?_; first | refine r_pure hT rfl rfl rfl rfl rfl rfl ?_ | refine r_store hT rfl rfl rfl rfl rfl rfl rfl rfl rfl rfl ?_ | refine r_alloc hT rfl rfl rfl rfl rfl rfl rfl rfl rfl ?_) | refine gi_seq ?_ | refine gi_plain ?_ | refine gi_skip ?_ | refine gi_block ?_))
      apply gi_cut (σ := Unit) (fun _ => [(8, .box 2 0), (7, .sl 0), (3, .box 1 0), (2, .box 0 0)]) (fun _ => [hMf m, hV root, hNd ((bestL soon t m.es).getD noN)]) (fun _ => [eNd t]) (fun _ => True) (fun _ => rfl)
      case first =>
        intro fin
        refine gi_loop (σ := Nat) (fun j => [(9, I j), (8, .box 2 0), (7, .sl 0), (3, .box 1 0), (2, .box 0 0)]) (fun j => [hMf m, hV root, hNd ((bestL soon t (m.es.take j)).getD noN)]) (fun _ => [eNd t]) (fun j => j ≤ m.es.length) (fun j => m.es.length - j) 0 (Nat.zero_le _) ⟨rfl, rfl, rfl, rfl, rfl, trivial⟩ ⟨rfl, rfl, rfl, trivial⟩ ⟨rfl, trivial⟩ (fun _ => rfl) (fun j hj next2 => ?_)
        have hj : j ≤ m.es.length := hj
        (repeat (first | refine r_end ?_ | (refine r_op ?_; first | refine r_pure hT rfl rfl rfl rfl rfl rfl ?_ | refine r_load hT rfl rfl rfl rfl rfl rfl rfl rfl rfl ?_) | refine gi_seq ?_ | refine gi_plain ?_))
        refine gi_lt (q := ((m.es.map Eg.row).length : Int)) rfl (fun h5 => ?_) (fun h5 => ?_)
        · rw [List.length_map] at h5
          have hjl : j < m.es.length := by omega
          obtain ⟨e, hee⟩ : ∃ e, m.es[j]? = some e := ⟨_, List.getElem?_eq_getElem hjl⟩
          have hft : bestL soon t (m.es.take (j + 1)) = stepT soon t (bestL soon t (m.es.take j)) e := fold_take (stepT soon t) none hee
          have hgood : ∀ b, bestL soon t (m.es.take j) = some b → GoodN t b := fun b h => best_good (es := m.es.take j) (fun b h => by cases h) b h
          obtain ⟨M, hM⟩ : ∃ M, M = bestL soon t (m.es.take j) := ⟨_, rfl⟩
          rw [← hM] at hft hgood
          rw [← hM]
          have nx : ∀ M', M' = stepT soon t M e → ∀ F1 H1 S1, SubF [(9, I (wr .i64 ((j : Int) + 1))), (8, .box 2 0), (7, .sl 0), (3, .box 1 0), (2, .box 0 0)] F1 → SubH [hMf m, hV root, hNd (M'.getD noN)] H1 → SubS [eNd t] S1 → GI _ _ F1 H1 S1 := fun M' h F1 H1 S1 hF hH hS => by
            refine next2 (j + 1) F1 H1 S1 hjl (by omega) ?_ (by rw [hft, ← h]; exact hH) hS
            rw [wr_i64 (by omega) (by omega)] at hF
            simpa using hF
          (repeat (first | (refine r_op ?_; first | refine r_pure hT rfl rfl rfl rfl rfl rfl ?_ | refine r_load hT rfl rfl rfl rfl rfl rfl rfl rfl rfl ?_) | refine gi_seq ?_ | refine gi_plain ?_ | refine gi_skip ?_ | refine gi_block ?_))
          refine r_thaw 50 rfl ?_
          refine r_idx (row := e.row) hT rfl rfl rfl rfl rfl rfl rfl rfl rfl rfl rfl rfl (by omega) (by simp [hee]) ?_
          (repeat (first | refine r_end ?_ | (refine r_op ?_; first | refine r_pure hT rfl rfl rfl rfl rfl rfl ?_ | refine r_load hT rfl rfl rfl rfl rfl rfl rfl rfl rfl ?_ | refine r_store hT rfl rfl rfl rfl rfl rfl rfl rfl rfl rfl ?_ | refine r_alloc hT rfl rfl rfl rfl rfl rfl rfl rfl rfl ?_) | refine gi_seq ?_ | refine gi_plain ?_))
          refine r_call (Place_ok t e.f htl) rfl rfl rfl rfl rfl rfl rfl rfl Try.func38 rfl rfl rfl pI ?_
          rintro r S1 ⟨rfl, rfl⟩
          (repeat (first | refine r_end ?_ | (refine r_op ?_; refine r_pure hT rfl rfl rfl rfl rfl rfl ?_) | refine gi_seq ?_ | refine gi_plain ?_))
          refine r_case (d := 60) rfl (fun c1 => ?_) (fun c1 => ?_)
          · rw [placeI_lt] at c1
            have hst : stepT soon t M e = M := by
              unfold stepT candL
              cases hp : placeL t e.f with
              | none => rfl
              | some p => rw [hp] at c1; cases c1
            (repeat (first | refine r_end ?_ | (refine r_op ?_; first | refine r_pure hT rfl rfl rfl rfl rfl rfl ?_ | refine r_off rfl rfl rfl rfl rfl ?_) | refine gi_plain ?_ | refine gi_exit rfl ?_ | (refine gi_cnd ?_; first | refine gi_true rfl ?_ | refine gi_false rfl ?_)))
            exact nx M hst.symm _ _ _ ⟨rfl, rfl, rfl, rfl, rfl, trivial⟩ ⟨rfl, rfl, rfl, trivial⟩ ⟨rfl, trivial⟩
          rw [placeI_lt] at c1
          obtain ⟨p, hp⟩ : ∃ p, placeL t e.f = some p := by
            cases hp : placeL t e.f with
            | none => rw [hp] at c1; cases c1
            | some p => exact ⟨p, rfl⟩
          (repeat ((refine r_op ?_; first | refine r_pure hT rfl rfl rfl rfl rfl rfl ?_ | refine r_load hT rfl rfl rfl rfl rfl rfl rfl rfl rfl ?_)))
          refine r_call (Place_ok t e.t htl) rfl rfl rfl rfl rfl rfl rfl rfl Try.func38 rfl rfl rfl pI ?_
          rintro r S1 ⟨rfl, rfl⟩
          (repeat (first | refine r_end ?_ | (refine r_op ?_; refine r_pure hT rfl rfl rfl rfl rfl rfl ?_)))
          refine gi_cond rfl (fun c2 => ?_) (fun c2 => ?_)
          · rw [placeI_ge] at c2
            have hst : stepT soon t M e = M := by
              unfold stepT candL
              rw [hp]
              cases hq : placeL t e.t with
              | none => rw [hq] at c2; cases c2
              | some p => rfl
            (repeat (first | refine r_end ?_ | (refine r_op ?_; refine r_pure hT rfl rfl rfl rfl rfl rfl ?_) | refine gi_plain ?_ | refine gi_exit rfl ?_))
            exact nx M hst.symm _ _ _ ⟨rfl, rfl, rfl, rfl, rfl, trivial⟩ ⟨rfl, rfl, rfl, trivial⟩ ⟨rfl, trivial⟩
          rw [placeI_ge] at c2
          have hq : placeL t e.t = none := by
            cases hq : placeL t e.t with
            | none => rfl
            | some p => rw [hq] at c2; cases c2
          have hpl := placeL_lt hp
          obtain ⟨np, hnp⟩ : ∃ np, t[p]? = some np := ⟨_, List.getElem?_eq_getElem hpl⟩
          have hgd : t.getD p zNd = np := by rw [List.getD_eq_getElem?_getD, hnp]; rfl
          obtain ⟨nn, hnn⟩ : ∃ nn : Nd, nn = ⟨e.t, p, wr .i64 (np.c + e.c), e.d⟩ := ⟨_, rfl⟩
          have hc : candL t e = some nn := by unfold candL; rw [hp, hq]; show some (Nd.mk e.t (p : Nat) (wr .i64 ((t.getD p zNd).c + e.c)) e.d) = _; rw [hgd, hnn]
          (repeat (first | refine gi_seq ?_ | refine gi_skip ?_))
          refine gi_drawM [15] [(0, .p), (2, .p), (3, .p), (4, .p), (5, .p), (6, .p), (8, .p), (11, .p), (1, .t), (7, .t), (9, .t), (10, .p), (12, .t), (13, .p), (14, .o), (15, .l)] [0, 1, 0, 0, 0, 24, 32, 64, 0, 256, 640, 0, 2048, 5126, 0, 32767] [0, 1, 0, 0, 0, 24, 32, 64, 0, 256, 640, 0, 2048, 5126, 0, 24576] hm rfl (by kernel_rfl) (fun w1 K => ?_)
          (repeat ((refine r_op ?_; refine r_pure hT rfl rfl rfl rfl rfl rfl ?_)))
          refine r_turn (d := 69) (y := I (p : Int)) rfl (by rw [hp]; rfl) ?_
          refine r_turn (d := 71) (y := I (p : Int)) rfl (by rw [hp]; rfl) ?_
          refine r_idxS hT rfl rfl rfl rfl rfl rfl rfl rfl rfl rfl rfl rfl rfl (by (try dsimp only) <;> (try simp only [wrL, List.length_map, List.length_append, List.length_take, List.length_drop, List.length_replicate, List.length_cons, List.length_nil]) <;> omega) (by (try dsimp only) <;> (try simp only [wrL, List.length_map, List.length_append, List.length_take, List.length_drop, List.length_replicate, List.length_cons, List.length_nil]) <;> omega) ?_
          (repeat ((refine r_op ?_; first | refine r_pure hT rfl rfl rfl rfl rfl rfl ?_ | refine r_load hT rfl rfl rfl rfl rfl rfl rfl rfl rfl ?_)))
          refine r_loadS (row := np.row) hT rfl rfl rfl rfl rfl rfl rfl rfl (by show (t.map Nd.row)[((p : Int)).toNat]? = _; rw [Int.toNat_natCast, List.getElem?_map, hnp]; rfl) rfl rfl rfl ?_
          (repeat (first | refine r_end ?_ | (refine r_op ?_; first | refine r_pure hT rfl rfl rfl rfl rfl rfl ?_ | refine r_load hT rfl rfl rfl rfl rfl rfl rfl rfl rfl ?_ | refine r_store hT rfl rfl rfl rfl rfl rfl rfl rfl rfl rfl ?_ | refine r_alloc hT rfl rfl rfl rfl rfl rfl rfl rfl rfl ?_) | refine gi_seq ?_ | refine gi_plain ?_))
          refine r_case (d := 84) rfl (fun c3 => ?_) (fun c3 => ?_)
          · have hMn : M = none := by
              cases hMb : M with
              | none => rfl
              | some b =>
                rw [hMb, ltB_eq] at c3
                obtain ⟨pb, hb, _⟩ := hgood b hMb
                have := of_decide_eq_true c3
                have : b.p < 0 := this
                omega
            have hst : stepT soon t M e = some nn := by unfold stepT; rw [hc, hMn]
            (repeat (first | refine r_end ?_ | (refine r_op ?_; first | refine r_pure hT rfl rfl rfl rfl rfl rfl ?_ | refine r_load hT rfl rfl rfl rfl rfl rfl rfl rfl rfl ?_ | refine r_store hT rfl rfl rfl rfl rfl rfl rfl rfl rfl rfl ?_ | refine r_off rfl rfl rfl rfl rfl ?_) | refine gi_plain ?_ | refine gi_inBlock ?_ | (refine gi_cnd ?_; first | refine gi_true rfl ?_ | refine gi_false rfl ?_)))
            refine nx (some nn) hst.symm _ _ _ ⟨rfl, rfl, rfl, rfl, rfl, trivial⟩ ⟨rfl, rfl, ?_, trivial⟩ ⟨rfl, trivial⟩
            rw [hnn]; rfl
          · obtain ⟨b, hMb⟩ : ∃ b, M = some b := by
              cases hMb : M with
              | none => rw [hMb, ltB_eq] at c3; have := of_decide_eq_false c3; exact absurd (show ((-1 : Int) < 0) by decide) this
              | some b => exact ⟨b, rfl⟩
            obtain ⟨pb, hb, hbl⟩ := hgood b hMb
            obtain ⟨nb, hnb⟩ : ∃ nb, t[pb]? = some nb := ⟨_, List.getElem?_eq_getElem hbl⟩
            have hsn : soon t nn b = soonF np.v nb.v nn b := by
              unfold soon
              rw [hb, show nn.p = (p : Nat) by rw [hnn], Int.toNat_natCast, Int.toNat_natCast, hgd, List.getD_eq_getElem?_getD, hnb]; rfl
            have hst : stepT soon t M e = match soonF np.v nb.v nn b with
              | true => some nn
              | false => some b := by unfold stepT; rw [hc, hMb, ← hsn]
            subst hMb
            subst hnn
            (repeat ((refine r_op ?_; first | refine r_pure hT rfl rfl rfl rfl rfl rfl ?_ | refine r_load hT rfl rfl rfl rfl rfl rfl rfl rfl rfl ?_)))
            refine r_call (sooner_ok t ⟨e.t, p, wr .i64 (np.c + e.c), e.d⟩ b htl np nb p pb rfl hb hnp hnb) rfl rfl rfl rfl rfl rfl rfl rfl Try.func80 rfl rfl rfl pB ?_
            rintro r S1 ⟨rfl, rfl⟩
            (repeat (first | refine r_end ?_ | (refine r_op ?_; refine r_pure hT rfl rfl rfl rfl rfl rfl ?_)))
            refine gi_cond rfl (fun c4 => ?_) (fun c4 => ?_)
            · rw [c4] at hst
              (repeat (first | refine r_end ?_ | (refine r_op ?_; first | refine r_pure hT rfl rfl rfl rfl rfl rfl ?_ | refine r_load hT rfl rfl rfl rfl rfl rfl rfl rfl rfl ?_ | refine r_store hT rfl rfl rfl rfl rfl rfl rfl rfl rfl rfl ?_) | refine gi_plain ?_ | refine gi_inBlock ?_))
              exact nx (some _) hst.symm _ _ _ ⟨rfl, rfl, rfl, rfl, rfl, trivial⟩ ⟨rfl, rfl, rfl, trivial⟩ ⟨rfl, trivial⟩
            · rw [c4] at hst
              (repeat (first | refine r_end ?_ | (refine r_op ?_; refine r_pure hT rfl rfl rfl rfl rfl rfl ?_) | refine gi_plain ?_ | refine gi_skip ?_ | refine gi_inBlock ?_))
              exact nx (some b) hst.symm _ _ _ ⟨rfl, rfl, rfl, rfl, rfl, trivial⟩ ⟨rfl, rfl, rfl, trivial⟩ ⟨rfl, trivial⟩
        · rw [List.length_map] at h5
          have hjl : j = m.es.length := by omega
          subst hjl
          rw [List.take_length]
          (repeat (first | refine gi_seq ?_ | refine gi_exit rfl ?_))
          exact fin () _ _ _ trivial ⟨rfl, rfl, rfl, rfl, trivial⟩ ⟨rfl, rfl, rfl, trivial⟩ ⟨rfl, trivial⟩
      case after =>
        intro _ _
        have hgood : ∀ b, bestL soon t m.es = some b → GoodN t b := fun b h => best_good (es := m.es) (fun b h => by cases h) b h
        obtain ⟨M, hM⟩ : ∃ M, M = bestL soon t m.es := ⟨_, rfl⟩
        rw [← hM] at hgood ⊢
        (repeat (first | refine r_end ?_ | (refine r_op ?_; first | refine r_pure hT rfl rfl rfl rfl rfl rfl ?_ | refine r_load hT rfl rfl rfl rfl rfl rfl rfl rfl rfl ?_) | refine gi_plain ?_))
        refine gi_cond rfl (fun c5 => ?_) (fun c5 => ?_)
        · have hMn : M = none := by
            cases hMb : M with
            | none => rfl
            | some b =>
              rw [hMb, ltB_eq] at c5
              obtain ⟨pb, hb, _⟩ := hgood b hMb
              have := of_decide_eq_true c5
              have : b.p < 0 := this
              omega
          have hstep : refTree m root = t := by rw [← ht, treeN_none (hM.symm.trans hMn)]
          (repeat (first | refine r_end ?_ | (refine r_op ?_; refine r_pure hT rfl rfl rfl rfl rfl rfl ?_) | refine gi_seq ?_ | refine gi_plain ?_ | refine gi_exit rfl ?_))
          refine gi_retX hT Try.func50 rfl [] [0] rfl rfl rfl rfl rfl rfl rfl rfl ?_
          exact ⟨rfl, rfl, by rw [hstep]⟩
        · obtain ⟨b, hMb⟩ : ∃ b, M = some b := by
            cases hMb : M with
            | none => rw [hMb, ltB_eq] at c5; have := of_decide_eq_false c5; exact absurd (show ((-1 : Int) < 0) by decide) this
            | some b => exact ⟨b, rfl⟩
          have hstep : refTree m root = treeN soon m.es k' (t ++ [b]) := by rw [← ht, treeN_some (hM.symm.trans hMb)]
          subst hMb
          (repeat (first | (refine r_op ?_; first | refine r_pure hT rfl rfl rfl rfl rfl rfl ?_ | refine r_load hT rfl rfl rfl rfl rfl rfl rfl rfl rfl ?_ | refine r_lit hT rfl rfl rfl rfl rfl rfl rfl rfl rfl rfl rfl rfl rfl ?_) | refine gi_plain ?_ | refine gi_skip ?_))
          refine r_append hT rfl rfl rfl rfl rfl rfl rfl rfl rfl rfl rfl rfl rfl rfl rfl rfl rfl ?_ ?_
          · simp only [List.length_cons, List.length_nil, List.length_map, maxLen]
            constructor
            · omega
            · show _ * 40 ≤ _
              omega
          (repeat (first | refine r_end ?_ | (refine r_op ?_; refine r_pure hT rfl rfl rfl rfl rfl rfl ?_) | refine gi_inBlock ?_))
          refine gi_pick [0, 1] [0] rfl rfl rfl rfl rfl ?_
          exact next (k', t ++ [b]) _ _ _ ⟨hstep.symm, by simp only [List.length_append, List.length_cons, List.length_nil]; omega⟩ (by simp only; omega) ⟨rfl, rfl, rfl, trivial⟩ ⟨rfl, rfl, trivial⟩ ⟨eNd_ap t [b], trivial⟩
    · rw [List.length_map, List.length_map] at h3
      have hk0 : k = 0 := by omega
      subst hk0
      have hstep : refTree m root = t := ht.symm
      (repeat (first | refine r_end ?_ | (refine r_op ?_; refine r_pure hT rfl rfl rfl rfl rfl rfl ?_) | refine gi_seq ?_ | refine gi_plain ?_ | refine gi_exit rfl ?_))
      refine gi_retX hT Try.func50 rfl [] [0] rfl rfl rfl rfl rfl rfl rfl rfl ?_
      exact ⟨rfl, rfl, by rw [hstep]⟩
end Go.Proofs.Ytmocggibcniggaa.Kt
namespace Go.Proofs.Ytmocggibcniggaa.Kt
open Go Kw Go.Proofs
attribute [local irreducible] Kw.GI Kw.GR Kw.FnR Kw.FnX
set_option maxHeartbeats 8000000
set_option maxRecDepth 100000
theorem IndexV_ok (l : List Vt) (v : Vt) (hl : l.length < 1000000) : FnR Try.prog 83 [rsV l, v.av] (fun r S => (∃ n : Int, r = I n ∧ leB 0 n = l.any (fun x => decide (x = v))) ∧ S = []) := by
  refine fnR_intro (T := TT) (n := 19) Try.func83 rfl rfl rfl (fun w Z => ?_)
  (repeat (first | refine r_end ?_ | (refine r_op ?_; first | refine r_pure hT rfl rfl rfl rfl rfl rfl ?_ | refine r_box rfl rfl rfl rfl rfl rfl rfl rfl rfl ?_) | refine gi_seq ?_ | refine gi_plain ?_ | refine gi_block ?_))
  refine gi_loop (σ := Nat) (fun j => [(8, I j), (7, I l.length), (3, .box 0 0), (0, rsV l)]) (fun _ => [hV v]) (fun _ => []) (fun j => j ≤ l.length ∧ (l.take j).any (fun x => decide (x = v)) = false) (fun j => l.length - j) 0 ⟨Nat.zero_le _, rfl⟩ ⟨rfl, by show some (I ((l.map Vt.row).length : Nat)) = _; rw [List.length_map], rfl, rfl, trivial⟩ ⟨rfl, trivial⟩ trivial (fun _ => rfl) (fun j hj next => ?_)
  obtain ⟨hj, hn⟩ := hj
  (repeat (first | refine r_end ?_ | (refine r_op ?_; refine r_pure hT rfl rfl rfl rfl rfl rfl ?_) | refine gi_seq ?_ | refine gi_plain ?_))
  refine gi_lt rfl (fun h3 => ?_) (fun h3 => ?_)
  · have hjl : j < l.length := by omega
    obtain ⟨x, hx⟩ : ∃ x, l[j]? = some x := ⟨_, List.getElem?_eq_getElem hjl⟩
    have hat := any_take (fun x => decide (x = v)) hx
    rw [hn, Bool.false_or] at hat
    (repeat (first | refine r_end ?_ | (refine r_op ?_; refine r_pure hT rfl rfl rfl rfl rfl rfl ?_) | refine gi_seq ?_ | refine gi_plain_ne 4 rfl ?_ | refine gi_skip ?_ | refine gi_block ?_))
    refine gi_drawM [] [(1, .p), (2, .p), (3, .p), (0, .t), (4, .t), (5, .p)] [0, 0, 0, 6, 8, 17] [0, 0, 0, 6, 8, 17] hm rfl (by kernel_rfl) (fun w1 K => ?_)
    (repeat ((refine r_op ?_; refine r_pure hT rfl rfl rfl rfl rfl rfl ?_)))
    refine r_idx (row := x.row) hT rfl rfl rfl rfl rfl rfl rfl rfl rfl rfl rfl rfl (by omega) (by simp [hx]) ?_
    (repeat ((refine r_op ?_; refine r_load hT rfl rfl rfl rfl rfl rfl rfl rfl rfl ?_)))
    refine r_eqT _ rfl rfl rfl rfl rfl rfl rfl rfl rfl y_flat_Vt ?_
    (repeat (refine r_end ?_))
    refine gi_cond rfl (fun c4 => ?_) (fun c4 => ?_)
    · rw [veq_eq v x] at c4
      have hvx := of_decide_eq_true c4
      (repeat (first | refine r_end ?_ | (refine r_op ?_; refine r_pure hT rfl rfl rfl rfl rfl rfl ?_) | refine gi_seq ?_ | refine gi_plain ?_))
      refine gi_retW hT Try.func83 rfl rfl [] rfl rfl rfl rfl ?_
      refine ⟨⟨j, rfl, ?_⟩, rfl⟩
      have : l.any (fun x => decide (x = v)) = true := List.any_eq_true.2 ⟨x, List.mem_of_getElem? hx, decide_eq_true hvx.symm⟩
      rw [this, leB_eq]
      exact decide_eq_true (by omega)
    · rw [veq_eq v x] at c4
      have hvx := of_decide_eq_false c4
      (repeat (first | refine r_end ?_ | (refine r_op ?_; refine r_pure hT rfl rfl rfl rfl rfl rfl ?_) | refine gi_plain ?_ | refine gi_skip ?_ | refine gi_inBlock ?_))
      refine next (j + 1) _ _ _ ⟨hjl, by rw [hat]; exact decide_eq_false (fun e => hvx e.symm)⟩ (by omega) ⟨?_, rfl, rfl, rfl, trivial⟩ ⟨rfl, trivial⟩ trivial
      show some (I (wr .i64 ((j : Int) + 1))) = _
      rw [wr_i64 (by omega) (by omega)]
      simp
  · have hjl : j = l.length := by omega
    subst hjl
    rw [List.take_length] at hn
    (repeat (first | refine r_end ?_ | (refine r_op ?_; refine r_pure hT rfl rfl rfl rfl rfl rfl ?_) | refine gi_seq ?_ | refine gi_plain ?_ | refine gi_exit rfl ?_))
    refine gi_retW hT Try.func83 rfl rfl [] rfl rfl rfl rfl ?_
    refine ⟨⟨-1, rfl, ?_⟩, rfl⟩
    rw [hn, leB_eq]; rfl
theorem pIx {b : Bool} : ∀ r S1, ((∃ n : Int, r = I n ∧ leB 0 n = b) ∧ S1 = []) → plainA r = true ∧ PlainS S1 := by
  rintro r S1 ⟨⟨n, rfl, _⟩, rfl⟩
  exact ⟨rfl, PlainS.nil⟩
theorem ContainsV_ok (l : List Vt) (v : Vt) (hl : l.length < 1000000) : FnR Try.prog 55 [rsV l, v.av] (RB (l.any (fun x => decide (x = v)))) := by
  refine fnR_intro (T := TT) (n := 9) Try.func55 rfl rfl rfl (fun w Z => ?_)
  (repeat (first | refine r_end ?_ | (refine r_op ?_; first | refine r_pure hT rfl rfl rfl rfl rfl rfl ?_ | refine r_load hT rfl rfl rfl rfl rfl rfl rfl rfl rfl ?_ | refine r_box rfl rfl rfl rfl rfl rfl rfl rfl rfl ?_) | refine gi_seq ?_ | refine gi_plain ?_))
  refine r_call (IndexV_ok l v hl) rfl rfl rfl rfl rfl rfl rfl rfl Try.func83 rfl rfl rfl pIx ?_
  rintro r S1 ⟨⟨n, rfl, hn⟩, rfl⟩
  (repeat (first | refine r_end ?_ | (refine r_op ?_; refine r_pure hT rfl rfl rfl rfl rfl rfl ?_)))
  refine gi_retW hT Try.func55 rfl rfl [] rfl rfl rfl rfl ?_
  exact ⟨by rw [← hn], rfl⟩
def aheadI (a b : Vt) : Int := orL [wr .i64 (0 - cmp3 a.k b.k), cmp3 a.i b.i]
theorem ahead_ok (a b : Vt) : FnR Try.prog 95 [a.av, b.av] (RI (aheadI a b)) := by
  refine fnR_intro (T := TT) (n := 18) Try.func95 rfl rfl rfl (fun w Z => ?_)
  (repeat (first | refine r_end ?_ | (refine r_op ?_; first | refine r_pure hT rfl rfl rfl rfl rfl rfl ?_ | refine r_box rfl rfl rfl rfl rfl rfl rfl rfl rfl ?_) | refine gi_seq ?_ | refine gi_plain_ne 1 rfl ?_))
  refine gi_drawM [] [(0, .p), (2, .p), (6, .p), (8, .p), (1, .t), (3, .t), (7, .t), (9, .t), (4, .o), (5, .p), (10, .o), (11, .o), (12, .o), (13, .p)] [0, 1, 0, 4, 10, 16, 0, 64, 0, 256, 656, 1056, 3072, 8191] [0, 1, 0, 4, 10, 16, 0, 64, 0, 256, 640, 1056, 2048, 4096] hm rfl (by kernel_rfl) (fun w1 K => ?_)
  (repeat ((refine r_op ?_; first | refine r_pure hT rfl rfl rfl rfl rfl rfl ?_ | refine r_load hT rfl rfl rfl rfl rfl rfl rfl rfl rfl ?_)))
  refine r_call (Compare_ok a.k b.k) rfl rfl rfl rfl rfl rfl rfl rfl Try.func66 rfl rfl rfl pI ?_
  rintro r S1 ⟨rfl, rfl⟩
  (repeat ((refine r_op ?_; refine r_pure hT rfl rfl rfl rfl rfl rfl ?_)))
  refine r_call (Compare_ok a.i b.i) rfl rfl rfl rfl rfl rfl rfl rfl Try.func66 rfl rfl rfl pI ?_
  rintro r S1 ⟨rfl, rfl⟩
  (repeat ((refine r_op ?_; refine r_lit hT rfl rfl rfl rfl rfl rfl rfl rfl rfl rfl rfl rfl rfl ?_)))
  refine r_call (Or_ok [wr .i64 (0 - cmp3 a.k b.k), cmp3 a.i b.i] (by show (2 : Nat) < _; decide)) rfl rfl rfl rfl rfl rfl rfl rfl Try.func65 rfl rfl rfl pI ?_
  rintro r S1 ⟨rfl, rfl⟩
  (repeat (first | refine r_end ?_ | (refine r_op ?_; refine r_pure hT rfl rfl rfl rfl rfl rfl ?_)))
  refine gi_retW hT Try.func95 rfl rfl [] rfl rfl rfl rfl ?_
  exact ⟨rfl, rfl⟩
end Go.Proofs.Ytmocggibcniggaa.Kt
namespace Go.Proofs.Ytmocggibcniggaa.Kt
open Go Kw Go.Proofs
attribute [local irreducible] Kw.GI Kw.GR Kw.FnR Kw.FnX
set_option maxHeartbeats 8000000
set_option maxRecDepth 100000
def btI (va vb : Vt) (a b : Nd) : Int := match notB (eqB (cmp3 a.c b.c) 0) with
  | true => cmp3 a.c b.c
  | false => match notB (decide (a.v = b.v)) with
    | true => aheadI a.v b.v
    | false => aheadI va vb
theorem better_ok (t : List Nd) (a b : Nd) (hl : t.length < 1000000) (na nb : Nd) (pa pb : Nat) (ha : a.p = pa) (hb : b.p = pb) (h1 : t[pa]? = some na) (h2 : t[pb]? = some nb) : FnR Try.prog 79 [rsNd t, a.av, b.av] (RB (ltB (btI na.v nb.v a b) 0)) := by
  have hal := (List.getElem?_eq_some_iff.1 h1).1
  have hbl := (List.getElem?_eq_some_iff.1 h2).1
  refine fnR_intro (T := TT) (n := 42) Try.func79 rfl rfl rfl (fun w Z => ?_)
  (repeat (first | refine r_end ?_ | (refine r_op ?_; first | refine r_pure hT rfl rfl rfl rfl rfl rfl ?_ | refine r_load hT rfl rfl rfl rfl rfl rfl rfl rfl rfl ?_ | refine r_box rfl rfl rfl rfl rfl rfl rfl rfl rfl ?_) | refine gi_seq ?_ | refine gi_plain ?_))
  refine r_call (Compare_ok a.c b.c) rfl rfl rfl rfl rfl rfl rfl rfl Try.func66 rfl rfl rfl pI ?_
  rintro r S1 ⟨rfl, rfl⟩
  (repeat (first | refine r_end ?_ | (refine r_op ?_; refine r_pure hT rfl rfl rfl rfl rfl rfl ?_) | refine gi_seq ?_ | refine gi_plain ?_ | refine gi_block ?_))
  apply gi_cut (σ := Unit) (fun _ => [(7, I (btI na.v nb.v a b))]) (fun _ => []) (fun _ => []) (fun _ => True) (fun _ => rfl)
  case first =>
    intro fin
    refine gi_cond rfl (fun c => ?_) (fun c => ?_)
    · have hbt : btI na.v nb.v a b = cmp3 a.c b.c := by unfold btI; rw [c]
      (repeat (first | refine gi_seq ?_ | refine gi_skip ?_ | refine gi_inBlock ?_))
      exact fin () _ _ _ trivial ⟨by rw [hbt]; rfl, trivial⟩ trivial trivial
    (repeat (first | (refine r_op ?_; first | refine r_pure hT rfl rfl rfl rfl rfl rfl ?_ | refine r_load hT rfl rfl rfl rfl rfl rfl rfl rfl rfl ?_) | refine gi_seq ?_ | refine gi_plain ?_))
    refine r_neT _ rfl rfl rfl rfl rfl rfl rfl rfl rfl y_flat_Vt ?_
    (repeat (first | refine r_end ?_ | (refine r_op ?_; refine r_pure hT rfl rfl rfl rfl rfl rfl ?_)))
    refine gi_cond rfl (fun c2 => ?_) (fun c2 => ?_)
    · rw [veq_eq a.v b.v] at c2
      have hbt : btI na.v nb.v a b = aheadI a.v b.v := by unfold btI; rw [c, c2]
      (repeat (first | (refine r_op ?_; first | refine r_pure hT rfl rfl rfl rfl rfl rfl ?_ | refine r_load hT rfl rfl rfl rfl rfl rfl rfl rfl rfl ?_) | refine gi_plain ?_))
      refine r_call (ahead_ok a.v b.v) rfl rfl rfl rfl rfl rfl rfl rfl Try.func95 rfl rfl rfl pI ?_
      rintro r S1 ⟨rfl, rfl⟩
      (repeat (first | refine r_end ?_ | (refine r_op ?_; refine r_pure hT rfl rfl rfl rfl rfl rfl ?_) | refine gi_seq ?_ | refine gi_inBlock ?_))
      exact fin () _ _ _ trivial ⟨by rw [hbt]; rfl, trivial⟩ trivial trivial
    rw [veq_eq a.v b.v] at c2
    have hbt : btI na.v nb.v a b = aheadI na.v nb.v := by unfold btI; rw [c, c2]
    skip
    refine gi_drawM [] [(0, .p), (1, .p), (6, .p), (7, .p), (2, .t), (3, .p), (4, .p), (5, .t), (8, .t), (9, .p), (10, .p), (11, .t), (12, .o), (13, .p)] [0, 0, 2, 5, 8, 16, 0, 0, 128, 320, 512, 1024, 2080, 8191] [0, 0, 2, 5, 8, 16, 0, 0, 128, 320, 512, 1024, 2080, 4096] hm rfl (by kernel_rfl) (fun w1 K => ?_)
    (repeat ((refine r_op ?_; first | refine r_pure hT rfl rfl rfl rfl rfl rfl ?_ | refine r_load hT rfl rfl rfl rfl rfl rfl rfl rfl rfl ?_)))
    refine r_turn (d := 15) (y := I (pa : Int)) rfl (by rw [← ha]) ?_
    refine r_idx (row := na.row) hT rfl rfl rfl rfl rfl rfl rfl rfl rfl rfl rfl rfl (by omega) (by simp [h1]) ?_
    (repeat ((refine r_op ?_; first | refine r_pure hT rfl rfl rfl rfl rfl rfl ?_ | refine r_load hT rfl rfl rfl rfl rfl rfl rfl rfl rfl ?_)))
    refine r_turn (d := 21) (y := I (pb : Int)) rfl (by rw [← hb]) ?_
    refine r_idx (row := nb.row) hT rfl rfl rfl rfl rfl rfl rfl rfl rfl rfl rfl rfl (by omega) (by simp [h2]) ?_
    (repeat ((refine r_op ?_; first | refine r_pure hT rfl rfl rfl rfl rfl rfl ?_ | refine r_load hT rfl rfl rfl rfl rfl rfl rfl rfl rfl ?_)))
    refine r_call (ahead_ok na.v nb.v) rfl rfl rfl rfl rfl rfl rfl rfl Try.func95 rfl rfl rfl pI ?_
    rintro r S1 ⟨rfl, rfl⟩
    (repeat (first | refine r_end ?_ | (refine r_op ?_; refine r_pure hT rfl rfl rfl rfl rfl rfl ?_) | refine gi_seq ?_ | refine gi_inBlock ?_))
    exact fin () _ _ _ trivial ⟨by rw [hbt]; rfl, trivial⟩ trivial trivial
  case after =>
    intro _ _
    (repeat (first | refine r_end ?_ | (refine r_op ?_; refine r_pure hT rfl rfl rfl rfl rfl rfl ?_) | refine gi_plain ?_))
    refine gi_retW hT Try.func79 rfl rfl [] rfl rfl rfl rfl ?_
    exact ⟨rfl, rfl⟩
/-- A router, or a network. -/
def KindOk (v : Vt) : Prop := v.k = 1 ∨ v.k = 2
theorem ahead_first {a b : Vt} (ha : KindOk a) (hb : KindOk b) : ltB (aheadI a b) 0 = firstB a b := by
  unfold aheadI firstB KindOk at *
  simp only [orL, cmp3, ltB_eq, eqB_eq, notB_eq]
  rcases ha with ha | ha <;> rcases hb with hb | hb <;> rw [ha, hb] <;> simp [wr_i64] <;> (split <;> simp_all <;> (try split) <;> simp_all <;> omega)
end Go.Proofs.Ytmocggibcniggaa.Kt
namespace Go.Proofs.Ytmocggibcniggaa.Kt
open Go Kw Go.Proofs
def valM (a b : Int) (l : MapL) : Option Value := (lookM a b l).map (·.2)
theorem valM_cons (a b c d : Int) (v : Value) (l : MapL) : valM a b ((c, d, v) :: l) = match keq a b c d with
    | true => some v
    | false => valM a b l := by
  unfold valM
  rw [lookM]
  cases keq a b c d with
  | true => rfl
  | false => cases lookM a b l <;> rfl
theorem keq_comm {a b c d : Int} : keq a b c d = keq c d a b := by
  rw [keq_iff, keq_iff]
  exact decide_eq_decide.2 ⟨fun h => ⟨h.1.symm, h.2.symm⟩, fun h => ⟨h.1.symm, h.2.symm⟩⟩
theorem valM_upd (a b c d : Int) (v : Value) : ∀ (l : MapL), valM a b (updM c d v l) = match keq a b c d with
    | true => some v
    | false => valM a b l
  | [] => by unfold updM; rw [valM_cons]
  | (e, f, x) :: l => by
    unfold updM
    cases h1 : keq c d e f with
    | true =>
      simp only
      rw [valM_cons, valM_cons]
      rw [keq_iff] at h1
      obtain ⟨rfl, rfl⟩ := of_decide_eq_true h1
      cases keq a b c d <;> rfl
    | false =>
      simp only
      rw [valM_cons, valM_cons, valM_upd a b c d v l]
      cases h2 : keq a b e f with
      | false => rfl
      | true =>
        rw [keq_iff] at h2
        obtain ⟨rfl, rfl⟩ := of_decide_eq_true h2
        rw [keq_comm, h1]
def isM (vs : List Vt) : MapL := vs.foldl (fun m v => updM v.k v.i (.bool true) m) []
theorem keq_vt (a b : Vt) : keq a.k a.i b.k b.i = decide (b = a) := by
  rw [keq_iff]
  refine decide_eq_decide.2 ⟨fun h => ?_, fun h => h ▸ ⟨rfl, rfl⟩⟩
  cases a; cases b; simp only [Vt.mk.injEq]; exact ⟨h.1.symm, h.2.symm⟩
theorem isM_fold (v : Vt) : ∀ (vs : List Vt) (m : MapL) (b : Bool), (valM v.k v.i m).getD (.bool false) = .bool b → (valM v.k v.i (vs.foldl (fun m v => updM v.k v.i (.bool true) m) m)).getD (.bool false) = .bool (b || vs.any (fun x => decide (x = v)))
  | [], m, b, h => by simpa using h
  | x :: vs, m, b, h => by
    rw [List.foldl_cons, List.any_cons]
    have := isM_fold v vs (updM x.k x.i (.bool true) m) (b || decide (x = v)) (by
      rw [valM_upd, keq_vt v x]
      by_cases hx : x = v
      · rw [decide_eq_true hx, Bool.or_true]; rfl
      · rw [decide_eq_false hx, Bool.or_false]; exact h)
    rw [this, Bool.or_assoc]
theorem isM_val (v : Vt) (vs : List Vt) : (((lookM v.k v.i (isM vs)).map (·.2)).getD (.bool false)) = .bool (vs.any (fun x => decide (x = v))) := by
  have := isM_fold v vs [] false rfl
  rw [Bool.false_or] at this
  exact this
def pmap : Nat → List Nd → MapL
  | _, [] => []
  | j, n :: t => (n.v.k, n.v.i, .int .i64 j) :: pmap (j + 1) t
theorem pmap_look (v : Vt) : ∀ (t : List Nd) (j : Nat), lookM v.k v.i (pmap j t) = (placeL t v).map (fun p => (p, .int .i64 ((p + j : Nat) : Int)))
  | [], j => rfl
  | n :: t, j => by
    unfold pmap lookM placeL
    rw [keq_vt v n.v, pmap_look v t (j + 1)]
    by_cases h : n.v = v
    · rw [decide_eq_true h, if_pos h]; simp
    · rw [decide_eq_false h, if_neg h]
      simp only
      cases placeL t v with
      | none => rfl
      | some p => simp only [Option.map_some]; rw [show p + (j + 1) = p + 1 + j by omega]
theorem pmap_app : ∀ (t : List Nd) (n : Nd) (j : Nat), pmap j (t ++ [n]) = pmap j t ++ [(n.v.k, n.v.i, .int .i64 ((j + t.length : Nat) : Int))]
  | [], n, j => rfl
  | m :: t, n, j => by
    rw [List.cons_append, pmap, pmap, pmap_app t n (j + 1), List.cons_append, List.length_cons, show j + 1 + t.length = j + (t.length + 1) by omega]
theorem updM_new {a b : Int} {v : Value} : ∀ {l : MapL}, lookM a b l = none → updM a b v l = l ++ [(a, b, v)]
  | [], _ => rfl
  | (c, d, x) :: l, h => by
    unfold lookM at h
    unfold updM
    cases hq : keq a b c d with
    | true => rw [hq] at h; cases h
    | false =>
      rw [hq] at h
      have hl : lookM a b l = none := by
        cases hl : lookM a b l with
        | none => rfl
        | some p => rw [hl] at h; cases h
      simp only
      rw [updM_new hl]; rfl
theorem pmap_upd {t : List Nd} {n : Nd} (h : placeL t n.v = none) : updM n.v.k n.v.i (.int .i64 (t.length : Nat)) (pmap 0 t) = pmap 0 (t ++ [n]) := by
  rw [updM_new (by rw [pmap_look, h]; rfl), pmap_app, Nat.zero_add]
/-! the program's order is the document's -/
def betr (t : List Nd) (a b : Nd) : Bool := ltB (btI (t.getD a.p.toNat zNd).v (t.getD b.p.toNat zNd).v a b) 0
theorem ahead_self (v : Vt) : aheadI v v = 0 := by
  unfold aheadI
  simp [orL, cmp3, wr_i64]
theorem bt_soon {va vb : Vt} {a b : Nd} (h1 : KindOk a.v) (h2 : KindOk b.v) (h3 : KindOk va) (h4 : KindOk vb) (hp : a.p = b.p → va = vb) : ltB (btI va vb a b) 0 = soonF va vb a b := by
  unfold btI soonF
  by_cases hc : a.c = b.c
  · rw [hc]
    simp only [eqB_eq, notB_eq, cmp3, beq_self_eq_true, Int.lt_irrefl, if_false, Bool.not_true]
    by_cases hv : a.v = b.v
    · rw [decide_eq_true hv]
      simp only [Bool.not_true]
      by_cases hpp : a.p = b.p
      · rw [hp hpp, ahead_self, hpp]
        simp [ltB_eq]
      · rw [ahead_first h3 h4]
        have : (a.p == b.p) = false := by simpa using hpp
        rw [this]; rfl
    · rw [decide_eq_false hv]
      simp only [Bool.not_false]
      exact ahead_first h1 h2
  · have h5 : notB (eqB a.c b.c) = true := by rw [notB_eq, eqB_eq]; simpa using hc
    have h6 : notB (eqB (cmp3 a.c b.c) 0) = true := by
      rw [notB_eq, eqB_eq]
      unfold cmp3
      split
      · rfl
      · split
        · rfl
        · omega
    rw [h5, h6]
    simp only [ltB_eq]
    unfold cmp3
    split
    · rename_i h; simp [h]
    · rename_i h
      split <;> simp [h]
end Go.Proofs.Ytmocggibcniggaa.Kt
namespace Go.Proofs.Ytmocggibcniggaa.Kt
open Go Kw Go.Proofs
attribute [local irreducible] Kw.GI Kw.GR Kw.FnR Kw.FnX
set_option maxHeartbeats 16000000
set_option maxRecDepth 100000
abbrev MO : Nat := 4294967295
abbrev hMp (l : MapL) : Option (TypeId × List AV) := some (4294967295, mapC l)
def prgTree (m : Mp) (root : Vt) : List Nd := match m.vs.any (fun x => decide (x = root)) with
  | true => treeN betr m.es m.vs.length [rootN root]
  | false => []
theorem pig : ∀ {l l' : List Vt}, l.Nodup → (∀ x ∈ l, x ∈ l') → l.length ≤ l'.length
  | [], _, _, _ => Nat.zero_le _
  | x :: l, l', h, hs => by
    rw [List.nodup_cons] at h
    have hx := hs x (List.mem_cons_self ..)
    have h1 := pig (l := l) (l' := l'.erase x) h.2 (fun y hy => (List.mem_erase_of_ne (fun (e : y = x) => h.1 (by rw [← e]; exact hy))).2 (hs y (List.mem_cons_of_mem _ hy)))
    have h2 := List.length_erase_of_mem hx
    have h3 := List.length_pos_of_mem hx
    rw [List.length_cons]
    omega
theorem scL_mapC {n k : Nat} : ∀ (l : MapL), scL n k (mapC l) = true
  | [] => rfl
  | (a, b, v) :: l => by
    show (true && (true && (true && scL n k (mapC l)))) = true
    rw [scL_mapC l]; rfl
theorem cut_mapC {k : Nat} : ∀ (l : MapL), cutLP (noK k) (mapC l) = mapC l
  | [] => rfl
  | (a, b, v) :: l => by
    show _ :: _ :: _ :: cutLP (noK k) (mapC l) = mapC ((a, b, v) :: l)
    rw [cut_mapC l]; rfl
theorem sc1 {n k : Nat} {F : Fr} {m : Mp} {root : Vt} {l : MapL} (h : scF n k F = true) : (scF n k F && (true && (true && (scL n k (mapC l) && true)))) = true := by
  rw [h, scL_mapC]; rfl
def placeJ : Option Nat → Int
  | some i => i
  | none => 0
theorem lk_ok (v : Vt) (t : List Nd) : (AV.tup [I (placeJ (placeL t v)), Bo (placeL t v).isSome]) = if true then .tup [.r (.v (((lookM v.k v.i (pmap 0 t)).map (·.2)).getD (.int .i64 0))), .r (.v (.bool (lookM v.k v.i (pmap 0 t)).isSome))] else .r (.v (((lookM v.k v.i (pmap 0 t)).map (·.2)).getD (.int .i64 0))) := by
  rw [pmap_look]
  cases placeL t v with
  | none => rfl
  | some p => rfl
theorem isM_ok (v : Vt) (vs : List Vt) : (Bo (vs.any (fun x => decide (x = v)))) = if false then .tup [.r (.v (((lookM v.k v.i (isM vs)).map (·.2)).getD (.bool false))), .r (.v (.bool (lookM v.k v.i (isM vs)).isSome))] else .r (.v (((lookM v.k v.i (isM vs)).map (·.2)).getD (.bool false))) := by
  rw [isM_val]
  rfl
theorem sc2 {b : Bool} {l l' : MapL} {n k : Nat} (h : b = true) : (b && (true && (true && (scL n k (mapC l) && (scL n k (mapC l') && (true && true)))))) = true := by
  rw [h, scL_mapC, scL_mapC]; rfl
theorem best_fold {bt : List Nd → Nd → Nd → Bool} {t : List Nd} {b : Nd} : ∀ {es : List Eg} {m : Option Nd}, es.foldl (stepT bt t) m = some b → m = some b ∨ ∃ e ∈ es, candL t e = some b
  | [], m, h => .inl h
  | e :: es, m, h => by
    rcases best_fold (es := es) h with h | ⟨e', h1, h2⟩
    · unfold stepT at h
      split at h
      · exact .inl h
      · rename_i n hn
        split at h
        · cases h; exact .inr ⟨e, List.mem_cons_self .., hn⟩
        · split at h
          · cases h; exact .inr ⟨e, List.mem_cons_self .., hn⟩
          · exact .inl h
    · exact .inr ⟨e', List.mem_cons_of_mem _ h1, h2⟩
theorem best_new {bt : List Nd → Nd → Nd → Bool} {t : List Nd} {b : Nd} {es : List Eg} (h : bestL bt t es = some b) : placeL t b.v = none ∧ ∃ e ∈ es, b.v = e.t := by
  rcases best_fold h with h | ⟨e, h1, h2⟩
  · cases h
  · unfold candL at h2
    split at h2
    · rename_i hq
      cases h2
      exact ⟨hq, e, h1, rfl⟩
    · cases h2
theorem pTree_ok (m : Mp) (root : Vt) (hv : m.vs.length ≤ 10000) (he : m.es.length ≤ 10000000) (hto : ∀ e ∈ m.es, m.vs.any (fun x => decide (x = e.t)) = true) : FnX Try.prog 49 [avMf m, root.av] [] [] (RV1 (eNd (prgTree m root))) := by
  refine fnX_intro (T := TT) (n := 110) Try.func49 rfl rfl rfl (fun w X Z Y B => ?_)
  (repeat (first | refine r_end ?_ | (refine r_op ?_; first | refine r_pure hT rfl rfl rfl rfl rfl rfl ?_ | refine r_load hT rfl rfl rfl rfl rfl rfl rfl rfl rfl ?_ | refine r_box rfl rfl rfl rfl rfl rfl rfl rfl rfl ?_) | refine gi_seq ?_ | refine gi_plain ?_))
  refine r_thaw 20 rfl ?_
  refine r_call (ContainsV_ok m.vs root (by omega)) rfl rfl rfl rfl rfl rfl rfl rfl Try.func55 rfl rfl rfl pB ?_
  rintro r S1 ⟨rfl, rfl⟩
  (repeat (first | refine r_end ?_ | (refine r_op ?_; refine r_pure hT rfl rfl rfl rfl rfl rfl ?_)))
  refine gi_cond rfl (fun c0 => ?_) (fun c0 => ?_)
  · rw [notB_eq, Bool.not_eq_true'] at c0
    have hrt : prgTree m root = [] := by unfold prgTree; rw [c0]
    (repeat (first | refine r_end ?_ | (refine r_op ?_; refine r_pure hT rfl rfl rfl rfl rfl rfl ?_) | refine gi_seq ?_ | refine gi_plain ?_))
    refine gi_adopt (e := 58) (sz := 5) 4 rfl ?_
    refine gi_retX hT Try.func49 rfl [] [0] rfl rfl rfl rfl rfl rfl rfl rfl ?_
    exact ⟨rfl, rfl, by rw [hrt]; rfl⟩
  rw [notB_eq, Bool.not_eq_false'] at c0
  have hrt : prgTree m root = treeN betr m.es m.vs.length [rootN root] := by unfold prgTree; rw [c0]
  (repeat (first | refine gi_seq ?_ | refine gi_plain ?_ | refine gi_skip ?_))
  refine r_makeMap rfl rfl rfl rfl rfl ?_
  (repeat (first | refine r_end ?_ | (refine r_op ?_; first | refine r_pure hT rfl rfl rfl rfl rfl rfl ?_ | refine r_load hT rfl rfl rfl rfl rfl rfl rfl rfl rfl ?_) | refine gi_seq ?_ | refine gi_plain ?_ | refine gi_block ?_))
  apply gi_cut (σ := Unit) (fun _ => [(5, .box 2 MO), (3, .box 1 0), (2, .box 0 0)]) (fun _ => [hMf m, hV root, hMp (isM m.vs)]) (fun _ => []) (fun _ => True) (fun _ => sc1 (m := m) (root := root) rfl)
  case first =>
    intro fin
    refine gi_thaw 26 rfl ?_
    refine gi_loop (σ := Nat) (fun j => [(28, I j), (27, I m.vs.length), (26, .r (.rs 2 (m.vs.map Vt.row))), (5, .box 2 MO), (3, .box 1 0), (2, .box 0 0)]) (fun j => [hMf m, hV root, hMp (isM (m.vs.take j))]) (fun _ => []) (fun j => j ≤ m.vs.length) (fun j => m.vs.length - j) 0 (Nat.zero_le _) ⟨rfl, by show some (I ((m.vs.map Vt.row).length : Nat)) = _; rw [List.length_map], rfl, rfl, rfl, rfl, trivial⟩ ⟨rfl, rfl, rfl, trivial⟩ trivial (fun _ => sc1 (m := m) (root := root) rfl) (fun j hj next => ?_)
    have hj : j ≤ m.vs.length := hj
    (repeat (first | refine r_end ?_ | (refine r_op ?_; refine r_pure hT rfl rfl rfl rfl rfl rfl ?_) | refine gi_seq ?_ | refine gi_plain ?_))
    refine gi_lt rfl (fun h3 => ?_) (fun h3 => ?_)
    · have hjl : j < m.vs.length := by omega
      obtain ⟨x, hx⟩ : ∃ x, m.vs[j]? = some x := ⟨_, List.getElem?_eq_getElem hjl⟩
      have hft : isM (m.vs.take (j + 1)) = updM x.k x.i (.bool true) (isM (m.vs.take j)) := fold_take (fun (mm : MapL) (v : Vt) => updM v.k v.i (.bool true) mm) [] hx
      (repeat (first | refine gi_seq ?_ | refine gi_plain ?_ | refine gi_skip ?_ | refine gi_block ?_))
      refine r_idx (row := x.row) hT rfl rfl rfl rfl rfl rfl rfl rfl rfl rfl rfl rfl (by omega) (by simp [hx]) ?_
      (repeat (first | refine r_end ?_ | (refine r_op ?_; first | refine r_pure hT rfl rfl rfl rfl rfl rfl ?_ | refine r_load hT rfl rfl rfl rfl rfl rfl rfl rfl rfl ?_ | refine r_store hT rfl rfl rfl rfl rfl rfl rfl rfl rfl rfl ?_ | refine r_alloc hT rfl rfl rfl rfl rfl rfl rfl rfl rfl ?_) | refine gi_plain ?_))
      refine r_mapUpd (l := isM (m.vs.take j)) (p := x.k) (r := x.i) (v := .bool true) rfl (.inl rfl) rfl rfl rfl rfl rfl rfl Try.underlying135 y_flat_Vt ?_
      (repeat (first | refine r_end ?_ | (refine r_op ?_; refine r_pure hT rfl rfl rfl rfl rfl rfl ?_) | refine gi_plain ?_ | refine gi_inBlock ?_))
      refine next (j + 1) _ _ _ hjl (by omega) ⟨?_, rfl, rfl, rfl, rfl, rfl, trivial⟩ ⟨rfl, rfl, by rw [hft], trivial⟩ trivial
      show some (I (wr .i64 ((j : Int) + 1))) = _
      rw [wr_i64 (by omega) (by omega)]
      simp
    · have hjl : j = m.vs.length := by omega
      subst hjl
      rw [List.take_length]
      (repeat (first | refine gi_seq ?_ | refine gi_exit rfl ?_))
      exact fin () _ _ _ trivial ⟨rfl, rfl, rfl, trivial⟩ ⟨rfl, rfl, rfl, trivial⟩ trivial
  case after =>
    intro _ _
    (repeat (first | refine r_end ?_ | (refine r_op ?_; first | refine r_pure hT rfl rfl rfl rfl rfl rfl ?_ | refine r_load hT rfl rfl rfl rfl rfl rfl rfl rfl rfl ?_ | refine r_lit hT rfl rfl rfl rfl rfl rfl rfl rfl rfl rfl rfl rfl rfl ?_) | refine gi_seq ?_ | refine gi_plain ?_))
    refine r_makeMap rfl rfl rfl rfl rfl ?_
    (repeat ((refine r_op ?_; refine r_load hT rfl rfl rfl rfl rfl rfl rfl rfl rfl ?_)))
    refine r_mapUpd (l := []) (p := root.k) (r := root.i) (v := .int .i64 0) rfl (.inr rfl) rfl rfl rfl rfl rfl rfl Try.underlying136 y_flat_Vt ?_
    (repeat (first | refine r_end ?_ | (refine r_op ?_; refine r_pure hT rfl rfl rfl rfl rfl rfl ?_) | refine gi_block ?_))
    refine gi_loop (σ := Nat × List Nd) (fun _ => [(8, .sl 0), (9, .box 3 MO), (5, .box 2 MO), (3, .box 1 0), (2, .box 0 0)]) (fun s => [hMf m, hV root, hMp (isM m.vs), hMp (pmap 0 s.2)]) (fun s => [eNd s.2]) (fun s => treeN betr m.es s.1 s.2 = prgTree m root ∧ s.2.length + s.1 = m.vs.length + 1 ∧ (s.2.map Nd.v).Nodup ∧ ∀ x ∈ s.2.map Nd.v, x ∈ m.vs) (fun s => s.1) (m.vs.length, [rootN root]) ⟨hrt.symm, by simp only [List.length_cons, List.length_nil]; omega, by simp, ?_⟩ ⟨rfl, rfl, rfl, rfl, rfl, trivial⟩ ⟨rfl, rfl, rfl, rfl, trivial⟩ ⟨rfl, trivial⟩ (fun s => ?_) (fun s hs next => ?_)
    · intro x hx
      obtain ⟨y, hy, hyr⟩ := List.any_eq_true.1 c0
      simp only [List.map_cons, List.map_nil, List.mem_singleton] at hx
      rw [hx, show (rootN root).v = root from rfl, ← of_decide_eq_true hyr]
      exact hy
    · show (true && (true && (true && (scL _ _ (mapC (isM m.vs)) && (scL _ _ (mapC (pmap 0 s.2)) && true))))) = true
      rw [scL_mapC, scL_mapC]; rfl
    obtain ⟨k, t⟩ := s
    obtain ⟨ht, hk, hnd, hsub⟩ := hs
    simp only at ht hk hnd hsub
    have htl : t.length ≤ m.vs.length := by have := pig hnd hsub; rwa [List.length_map] at this
    obtain ⟨k', rfl⟩ : ∃ k', k = k' + 1 := ⟨k - 1, by omega⟩
    (repeat (first | refine r_end ?_ | (refine r_op ?_; first | refine r_pure hT rfl rfl rfl rfl rfl rfl ?_ | refine r_load hT rfl rfl rfl rfl rfl rfl rfl rfl rfl ?_ | refine r_alloc hT rfl rfl rfl rfl rfl rfl rfl rfl rfl ?_) | refine gi_seq ?_ | refine gi_plain ?_ | refine gi_block ?_))
    refine gi_thaw 42 rfl ?_
    apply gi_cut (σ := Unit) (fun _ => [(11, Bo (bestL betr t m.es).isSome), (10, .box 4 0), (8, .sl 0), (9, .box 3 MO), (5, .box 2 MO), (3, .box 1 0), (2, .box 0 0)]) (fun _ => [hMf m, hV root, hMp (isM m.vs), hMp (pmap 0 t), hNd ((bestL betr t m.es).getD zNd)]) (fun _ => [eNd t]) (fun _ => True) (fun _ => sc2 rfl)
    case first =>
      intro fin
      refine gi_loop (σ := Nat) (fun j => [(44, I j), (43, I m.es.length), (42, .r (.rs 6 (m.es.map Eg.row))), (11, Bo (bestL betr t (m.es.take j)).isSome), (10, .box 4 0), (8, .sl 0), (9, .box 3 MO), (5, .box 2 MO), (3, .box 1 0), (2, .box 0 0)]) (fun j => [hMf m, hV root, hMp (isM m.vs), hMp (pmap 0 t), hNd ((bestL betr t (m.es.take j)).getD zNd)]) (fun _ => [eNd t]) (fun j => j ≤ m.es.length) (fun j => m.es.length - j) 0 (Nat.zero_le _) ⟨rfl, by show some (I ((m.es.map Eg.row).length : Nat)) = _; rw [List.length_map], rfl, rfl, rfl, rfl, rfl, rfl, rfl, rfl, trivial⟩ ⟨rfl, rfl, rfl, rfl, rfl, trivial⟩ ⟨rfl, trivial⟩ (fun _ => sc2 rfl) (fun j hj next2 => ?_)
      have hj : j ≤ m.es.length := hj
      (repeat (first | refine r_end ?_ | (refine r_op ?_; refine r_pure hT rfl rfl rfl rfl rfl rfl ?_) | refine gi_seq ?_ | refine gi_plain ?_))
      refine gi_lt rfl (fun h5 => ?_) (fun h5 => ?_)
      · have hjl : j < m.es.length := by omega
        obtain ⟨e, hee⟩ : ∃ e, m.es[j]? = some e := ⟨_, List.getElem?_eq_getElem hjl⟩
        have hft : bestL betr t (m.es.take (j + 1)) = stepT betr t (bestL betr t (m.es.take j)) e := fold_take (stepT betr t) none hee
        have hgood : ∀ b, bestL betr t (m.es.take j) = some b → GoodN t b := fun b h => best_good (es := m.es.take j) (fun b h => by cases h) b h
        obtain ⟨M, hM⟩ : ∃ M, M = bestL betr t (m.es.take j) := ⟨_, rfl⟩
        rw [← hM] at hft hgood
        rw [← hM]
        have nx : ∀ M', M' = stepT betr t M e → ∀ F1 H1 S1, SubF [(44, I (wr .i64 ((j : Int) + 1))), (43, I m.es.length), (42, .r (.rs 6 (m.es.map Eg.row))), (11, Bo M'.isSome), (10, .box 4 0), (8, .sl 0), (9, .box 3 MO), (5, .box 2 MO), (3, .box 1 0), (2, .box 0 0)] F1 → SubH [hMf m, hV root, hMp (isM m.vs), hMp (pmap 0 t), hNd (M'.getD zNd)] H1 → SubS [eNd t] S1 → GI _ _ F1 H1 S1 := fun M' h F1 H1 S1 hF hH hS => by
          refine next2 (j + 1) F1 H1 S1 hjl (by omega) ?_ (by rw [hft, ← h]; exact hH) hS
          rw [hft, ← h]
          rw [wr_i64 (by omega) (by omega)] at hF
          simpa using hF
        (repeat (first | refine gi_seq ?_ | refine gi_plain ?_ | refine gi_skip ?_ | refine gi_block ?_))
        refine r_idx (row := e.row) hT rfl rfl rfl rfl rfl rfl rfl rfl rfl rfl rfl rfl (by omega) (by simp [hee]) ?_
        (repeat (first | refine r_end ?_ | (refine r_op ?_; first | refine r_pure hT rfl rfl rfl rfl rfl rfl ?_ | refine r_load hT rfl rfl rfl rfl rfl rfl rfl rfl rfl ?_ | refine r_store hT rfl rfl rfl rfl rfl rfl rfl rfl rfl rfl ?_ | refine r_alloc hT rfl rfl rfl rfl rfl rfl rfl rfl rfl ?_) | refine gi_seq ?_ | refine gi_plain ?_))
        refine r_lookup (l := pmap 0 t) (p := e.f.k) (r := e.f.i) (ok := true) (zv := .int .i64 0) (v := .tup [I (placeJ (placeL t e.f)), Bo (placeL t e.f).isSome]) rfl rfl rfl rfl rfl rfl rfl rfl Try.underlying136 y_flat_Vt (by kernel_rfl) (lk_ok e.f t) rfl ?_
        (repeat (first | refine r_end ?_ | (refine r_op ?_; first | refine r_pure hT rfl rfl rfl rfl rfl rfl ?_ | refine r_load hT rfl rfl rfl rfl rfl rfl rfl rfl rfl ?_) | refine gi_seq ?_ | refine gi_plain ?_))
        refine r_lookup (l := pmap 0 t) (p := e.t.k) (r := e.t.i) (ok := true) (zv := .int .i64 0) (v := .tup [I (placeJ (placeL t e.t)), Bo (placeL t e.t).isSome]) rfl rfl rfl rfl rfl rfl rfl rfl Try.underlying136 y_flat_Vt (by kernel_rfl) (lk_ok e.t t) rfl ?_
        (repeat (first | refine r_end ?_ | (refine r_op ?_; refine r_pure hT rfl rfl rfl rfl rfl rfl ?_) | refine gi_seq ?_ | refine gi_plain ?_))
        refine r_case (d := 64) rfl (fun c1 => ?_) (fun c1 => ?_)
        · rw [notB_eq, Bool.not_eq_true'] at c1
          have hst : stepT betr t M e = M := by
            unfold stepT candL
            cases hp : placeL t e.f with
            | none => rfl
            | some p => rw [hp] at c1; cases c1
          (repeat (first | refine r_end ?_ | (refine r_op ?_; first | refine r_pure hT rfl rfl rfl rfl rfl rfl ?_ | refine r_off rfl rfl rfl rfl rfl ?_) | refine gi_plain ?_ | refine gi_exit rfl ?_ | (refine gi_cnd ?_; first | refine gi_true rfl ?_ | refine gi_false rfl ?_)))
          exact nx M hst.symm _ _ _ ⟨rfl, rfl, rfl, rfl, rfl, rfl, rfl, rfl, rfl, rfl, trivial⟩ ⟨rfl, rfl, rfl, rfl, rfl, trivial⟩ ⟨rfl, trivial⟩
        rw [notB_eq, Bool.not_eq_false'] at c1
        obtain ⟨p, hp⟩ : ∃ p, placeL t e.f = some p := Option.isSome_iff_exists.1 c1
        (repeat ((refine r_op ?_; refine r_pure hT rfl rfl rfl rfl rfl rfl ?_)))
        refine r_case (d := 67) rfl (fun c2 => ?_) (fun c2 => ?_)
        · have hst : stepT betr t M e = M := by
            unfold stepT candL
            rw [hp]
            cases hq : placeL t e.t with
            | none => rw [hq] at c2; cases c2
            | some p => rfl
          (repeat (first | refine r_end ?_ | (refine r_op ?_; first | refine r_pure hT rfl rfl rfl rfl rfl rfl ?_ | refine r_off rfl rfl rfl rfl rfl ?_) | refine gi_plain ?_ | refine gi_exit rfl ?_ | (refine gi_cnd ?_; first | refine gi_true rfl ?_ | refine gi_false rfl ?_)))
          exact nx M hst.symm _ _ _ ⟨rfl, rfl, rfl, rfl, rfl, rfl, rfl, rfl, rfl, rfl, trivial⟩ ⟨rfl, rfl, rfl, rfl, rfl, trivial⟩ ⟨rfl, trivial⟩
        have hq : placeL t e.t = none := by
          cases hq : placeL t e.t with
          | none => rfl
          | some p => rw [hq] at c2; cases c2
        (repeat ((refine r_op ?_; first | refine r_pure hT rfl rfl rfl rfl rfl rfl ?_ | refine r_load hT rfl rfl rfl rfl rfl rfl rfl rfl rfl ?_)))
        refine r_lookup (l := isM m.vs) (p := e.t.k) (r := e.t.i) (ok := false) (zv := .bool false) (v := Bo (m.vs.any (fun x => decide (x = e.t)))) rfl rfl rfl rfl rfl rfl rfl rfl Try.underlying135 y_flat_Vt (by kernel_rfl) (isM_ok e.t m.vs) rfl ?_
        have hin := hto e (List.mem_of_getElem? hee)
        (repeat (first | refine r_end ?_ | (refine r_op ?_; refine r_pure hT rfl rfl rfl rfl rfl rfl ?_)))
        refine gi_known (d := 73) (b := false) rfl (by rw [notB_eq, hin]; rfl) ?_
        have hpl := placeL_lt hp
        obtain ⟨np, hnp⟩ : ∃ np, t[p]? = some np := ⟨_, List.getElem?_eq_getElem hpl⟩
        have hgd : t.getD p zNd = np := by rw [List.getD_eq_getElem?_getD, hnp]; rfl
        obtain ⟨nn, hnn⟩ : ∃ nn : Nd, nn = ⟨e.t, p, wr .i64 (np.c + e.c), e.d⟩ := ⟨_, rfl⟩
        have hc : candL t e = some nn := by unfold candL; rw [hp, hq]; show some (Nd.mk e.t (p : Nat) (wr .i64 ((t.getD p zNd).c + e.c)) e.d) = _; rw [hgd, hnn]
        (repeat (first | refine gi_seq ?_ | refine gi_skip ?_ | (refine gi_cnd ?_; first | refine gi_true rfl ?_ | refine gi_false rfl ?_)))
        refine gi_drawM [15] [(0, .p), (2, .p), (3, .p), (4, .p), (5, .p), (6, .p), (8, .p), (11, .p), (1, .t), (7, .t), (9, .t), (10, .p), (12, .t), (13, .p), (14, .o), (15, .l)] [0, 1, 0, 0, 0, 24, 32, 64, 0, 256, 640, 0, 2048, 5126, 0, 32767] [0, 1, 0, 0, 0, 24, 32, 64, 0, 256, 640, 0, 2048, 5126, 0, 24576] hm rfl (by kernel_rfl) (fun w1 K => ?_)
        (repeat ((refine r_op ?_; refine r_pure hT rfl rfl rfl rfl rfl rfl ?_)))
        refine r_turn (d := 76) (y := I (p : Int)) rfl (by rw [hp]; rfl) ?_
        refine r_turn (d := 78) (y := I (p : Int)) rfl (by rw [hp]; rfl) ?_
        refine r_idxS hT rfl rfl rfl rfl rfl rfl rfl rfl rfl rfl rfl rfl rfl (by (try dsimp only) <;> (try simp only [wrL, List.length_map, List.length_append, List.length_take, List.length_drop, List.length_replicate, List.length_cons, List.length_nil]) <;> omega) (by (try dsimp only) <;> (try simp only [wrL, List.length_map, List.length_append, List.length_take, List.length_drop, List.length_replicate, List.length_cons, List.length_nil]) <;> omega) ?_
        (repeat ((refine r_op ?_; first | refine r_pure hT rfl rfl rfl rfl rfl rfl ?_ | refine r_load hT rfl rfl rfl rfl rfl rfl rfl rfl rfl ?_)))
        refine r_loadS (row := np.row) hT rfl rfl rfl rfl rfl rfl rfl rfl (by show (t.map Nd.row)[((p : Int)).toNat]? = _; rw [Int.toNat_natCast, List.getElem?_map, hnp]; rfl) rfl rfl rfl ?_
        (repeat (first | refine r_end ?_ | (refine r_op ?_; first | refine r_pure hT rfl rfl rfl rfl rfl rfl ?_ | refine r_load hT rfl rfl rfl rfl rfl rfl rfl rfl rfl ?_ | refine r_store hT rfl rfl rfl rfl rfl rfl rfl rfl rfl rfl ?_ | refine r_alloc hT rfl rfl rfl rfl rfl rfl rfl rfl rfl ?_) | refine gi_seq ?_ | refine gi_plain ?_))
        refine r_case (d := 90) rfl (fun c3 => ?_) (fun c3 => ?_)
        · have hMn : M = none := by
            cases hMb : M with
            | none => rfl
            | some b => rw [hMb, notB_eq] at c3; cases c3
          have hst : stepT betr t M e = some nn := by unfold stepT; rw [hc, hMn]
          (repeat (first | refine r_end ?_ | (refine r_op ?_; first | refine r_pure hT rfl rfl rfl rfl rfl rfl ?_ | refine r_load hT rfl rfl rfl rfl rfl rfl rfl rfl rfl ?_ | refine r_store hT rfl rfl rfl rfl rfl rfl rfl rfl rfl rfl ?_ | refine r_off rfl rfl rfl rfl rfl ?_) | refine gi_plain ?_ | refine gi_inBlock ?_ | (refine gi_cnd ?_; first | refine gi_true rfl ?_ | refine gi_false rfl ?_)))
          refine nx (some nn) hst.symm _ _ _ ⟨rfl, rfl, rfl, rfl, rfl, rfl, rfl, rfl, rfl, rfl, trivial⟩ ⟨rfl, rfl, rfl, rfl, ?_, trivial⟩ ⟨rfl, trivial⟩
          rw [hnn]; rfl
        · obtain ⟨b, hMb⟩ : ∃ b, M = some b := by
            cases hMb : M with
            | none => rw [hMb, notB_eq] at c3; cases c3
            | some b => exact ⟨b, rfl⟩
          obtain ⟨pb, hb, hbl⟩ := hgood b hMb
          obtain ⟨nb, hnb⟩ : ∃ nb, t[pb]? = some nb := ⟨_, List.getElem?_eq_getElem hbl⟩
          have hsn : betr t nn b = ltB (btI np.v nb.v nn b) 0 := by
            unfold betr
            rw [hb, show nn.p = (p : Nat) by rw [hnn], Int.toNat_natCast, Int.toNat_natCast, hgd, List.getD_eq_getElem?_getD, hnb]; try rfl
          have hst : stepT betr t M e = match ltB (btI np.v nb.v nn b) 0 with
            | true => some nn
            | false => some b := by unfold stepT; rw [hc, hMb, ← hsn]; try rfl
          subst hMb
          subst hnn
          (repeat ((refine r_op ?_; first | refine r_pure hT rfl rfl rfl rfl rfl rfl ?_ | refine r_load hT rfl rfl rfl rfl rfl rfl rfl rfl rfl ?_)))
          refine r_call (better_ok t ⟨e.t, p, wr .i64 (np.c + e.c), e.d⟩ b (by omega) np nb p pb rfl hb hnp hnb) rfl rfl rfl rfl rfl rfl rfl rfl Try.func79 rfl rfl rfl pB ?_
          rintro r S1 ⟨rfl, rfl⟩
          (repeat (first | refine r_end ?_ | (refine r_op ?_; refine r_pure hT rfl rfl rfl rfl rfl rfl ?_)))
          refine gi_cond rfl (fun c4 => ?_) (fun c4 => ?_)
          · rw [c4] at hst
            (repeat (first | refine r_end ?_ | (refine r_op ?_; first | refine r_pure hT rfl rfl rfl rfl rfl rfl ?_ | refine r_load hT rfl rfl rfl rfl rfl rfl rfl rfl rfl ?_ | refine r_store hT rfl rfl rfl rfl rfl rfl rfl rfl rfl rfl ?_) | refine gi_plain ?_ | refine gi_inBlock ?_))
            exact nx (some _) hst.symm _ _ _ ⟨rfl, rfl, rfl, rfl, rfl, rfl, rfl, rfl, rfl, rfl, trivial⟩ ⟨rfl, rfl, rfl, rfl, rfl, trivial⟩ ⟨rfl, trivial⟩
          · rw [c4] at hst
            (repeat (first | refine r_end ?_ | (refine r_op ?_; refine r_pure hT rfl rfl rfl rfl rfl rfl ?_) | refine gi_plain ?_ | refine gi_skip ?_ | refine gi_inBlock ?_))
            exact nx (some b) hst.symm _ _ _ ⟨rfl, rfl, rfl, rfl, rfl, rfl, rfl, rfl, rfl, rfl, trivial⟩ ⟨rfl, rfl, rfl, rfl, rfl, trivial⟩ ⟨rfl, trivial⟩
      · have hjl : j = m.es.length := by omega
        subst hjl
        rw [List.take_length]
        (repeat (first | refine gi_seq ?_ | refine gi_exit rfl ?_))
        exact fin () _ _ _ trivial ⟨rfl, rfl, rfl, rfl, rfl, rfl, rfl, trivial⟩ ⟨rfl, rfl, rfl, rfl, rfl, trivial⟩ ⟨rfl, trivial⟩
    case after =>
      intro _ _
      obtain ⟨M, hM⟩ : ∃ M, M = bestL betr t m.es := ⟨_, rfl⟩
      rw [← hM]
      cases hMb : M with
      | none =>
        have hstep : prgTree m root = t := by rw [← ht, treeN_none (hM.symm.trans hMb)]
        (repeat (first | refine r_end ?_ | (refine r_op ?_; refine r_pure hT rfl rfl rfl rfl rfl rfl ?_) | refine gi_plain ?_))
        refine gi_known (d := 99) (b := true) rfl (by rw [notB_eq]; rfl) ?_
        (repeat (first | refine r_end ?_ | (refine r_op ?_; refine r_pure hT rfl rfl rfl rfl rfl rfl ?_) | refine gi_seq ?_ | refine gi_plain ?_ | (refine gi_cnd ?_; first | refine gi_true rfl ?_ | refine gi_false rfl ?_)))
        refine gi_retX hT Try.func49 rfl [] [0] rfl rfl rfl rfl rfl rfl rfl rfl ?_
        exact ⟨rfl, rfl, by rw [hstep]⟩
      | some b =>
        have hstep : prgTree m root = treeN betr m.es k' (t ++ [b]) := by rw [← ht, treeN_some (hM.symm.trans hMb)]
        obtain ⟨hb1, hb2⟩ := best_new (hM.symm.trans hMb)
        (repeat (first | refine r_end ?_ | (refine r_op ?_; refine r_pure hT rfl rfl rfl rfl rfl rfl ?_) | refine gi_plain ?_))
        refine gi_known (d := 99) (b := false) rfl (by rw [notB_eq]; rfl) ?_
        (repeat (first | (refine r_op ?_; first | refine r_pure hT rfl rfl rfl rfl rfl rfl ?_ | refine r_load hT rfl rfl rfl rfl rfl rfl rfl rfl rfl ?_) | refine gi_seq ?_ | refine gi_plain ?_ | refine gi_skip ?_ | (refine gi_cnd ?_; first | refine gi_true rfl ?_ | refine gi_false rfl ?_)))
        refine r_mapUpd (l := pmap 0 t) (p := b.v.k) (r := b.v.i) (v := .int .i64 ((t.map Nd.row).length : Nat)) rfl (.inl rfl) rfl rfl rfl rfl rfl rfl Try.underlying136 y_flat_Vt ?_
        (repeat (first | refine r_end ?_ | (refine r_op ?_; first | refine r_pure hT rfl rfl rfl rfl rfl rfl ?_ | refine r_load hT rfl rfl rfl rfl rfl rfl rfl rfl rfl ?_ | refine r_lit hT rfl rfl rfl rfl rfl rfl rfl rfl rfl rfl rfl rfl rfl ?_) | refine gi_plain ?_))
        refine r_append hT rfl rfl rfl rfl rfl rfl rfl rfl rfl rfl rfl rfl rfl rfl rfl rfl rfl ?_ ?_
        · simp only [List.length_cons, List.length_nil, List.length_map, maxLen]
          constructor
          · omega
          · show _ * 40 ≤ _
            omega
        (repeat (first | refine r_end ?_ | (refine r_op ?_; refine r_pure hT rfl rfl rfl rfl rfl rfl ?_) | refine gi_inBlock ?_))
        refine next (k', t ++ [b]) _ _ _ ⟨hstep.symm, by simp only [List.length_append, List.length_cons, List.length_nil]; omega, ?_, ?_⟩ (by simp only; omega) ⟨rfl, rfl, rfl, rfl, rfl, trivial⟩ ⟨rfl, rfl, by rw [cut_mapC], ?_, trivial⟩ ⟨eNd_ap t [b], trivial⟩
        · simp only [List.map_append, List.map_cons, List.map_nil]
          rw [List.nodup_append]
          refine ⟨hnd, by simp, ?_⟩
          intro x hx y hy e
          rw [List.mem_singleton.1 hy] at e
          obtain ⟨n, hn, rfl⟩ := List.mem_map.1 hx
          exact placeL_none hb1 n hn e
        · intro x hx
          simp only [List.map_append, List.map_cons, List.map_nil, List.mem_append, List.mem_singleton] at hx
          rcases hx with hx | rfl
          · exact hsub x hx
          · obtain ⟨e, he1, he2⟩ := hb2
            obtain ⟨y, hy, hyr⟩ := List.any_eq_true.1 (hto e he1)
            rw [he2, ← of_decide_eq_true hyr]
            exact hy
        · show hMp (pmap 0 (t ++ [b])) = some (4294967295, cutLP (noK 0) (mapC (updM b.v.k b.v.i (.int .i64 ((t.map Nd.row).length : Nat)) (pmap 0 t))))
          rw [cut_mapC, List.length_map, pmap_upd hb1]
end Go.Proofs.Ytmocggibcniggaa.Kt
namespace Go.Proofs.Ytmocggibcniggaa.Kt
open Go Kw Go.Proofs
theorem kind_at {t : List Nd} (ht : ∀ n ∈ t, KindOk n.v) {n : Nd} (h : GoodN t n) : KindOk (t.getD n.p.toNat zNd).v := by
  obtain ⟨p, hp, hl⟩ := h
  rw [hp, Int.toNat_natCast, List.getD_eq_getElem?_getD, List.getElem?_eq_getElem hl]
  exact ht _ (List.getElem_mem hl)
theorem betr_soon {t : List Nd} {a b : Nd} (ht : ∀ n ∈ t, KindOk n.v) (ha : GoodN t a) (hb : GoodN t b) (ka : KindOk a.v) (kb : KindOk b.v) : betr t a b = soon t a b := by
  unfold betr soon
  exact bt_soon ka kb (kind_at ht ha) (kind_at ht hb) (fun e => by rw [e])
theorem cand_v {t : List Nd} {e : Eg} {n : Nd} (h : candL t e = some n) : n.v = e.t := by
  unfold candL at h
  split at h
  · cases h; rfl
  · cases h
theorem best_same {t : List Nd} (ht : ∀ n ∈ t, KindOk n.v) : ∀ {es : List Eg} {m : Option Nd}, (∀ e ∈ es, KindOk e.t) → (∀ b, m = some b → GoodN t b ∧ KindOk b.v) → es.foldl (stepT betr t) m = es.foldl (stepT soon t) m
  | [], m, _, _ => rfl
  | e :: es, m, he, hm => by
    have hs : stepT betr t m e = stepT soon t m e := by
      unfold stepT
      cases hc : candL t e with
      | none => rfl
      | some n =>
        cases m with
        | none => rfl
        | some b =>
          obtain ⟨g1, g2⟩ := hm b rfl
          simp only
          rw [betr_soon ht (cand_good hc) g1 (by rw [cand_v hc]; exact he e (List.mem_cons_self ..)) g2]
    rw [List.foldl_cons, List.foldl_cons, hs]
    refine best_same ht (fun e' h => he e' (List.mem_cons_of_mem _ h)) (fun b hb => ⟨step_good (fun b h => (hm b h).1) b hb, ?_⟩)
    unfold stepT at hb
    split at hb
    · exact (hm b hb).2
    · rename_i n hn
      have kn : KindOk n.v := by rw [cand_v hn]; exact he e (List.mem_cons_self ..)
      split at hb
      · cases hb; exact kn
      · rename_i b'
        split at hb
        · cases hb; exact kn
        · exact (hm b hb).2
theorem treeN_same {es : List Eg} (he : ∀ e ∈ es, KindOk e.t) : ∀ (k : Nat) (t : List Nd), (∀ n ∈ t, KindOk n.v) → treeN betr es k t = treeN soon es k t
  | 0, t, _ => rfl
  | k + 1, t, ht => by
    have hb : bestL betr t es = bestL soon t es := best_same ht he (fun b h => by cases h)
    cases hs : bestL soon t es with
    | none => rw [treeN_none hs, treeN_none (hb.trans hs)]
    | some n =>
      rw [treeN_some hs, treeN_some (hb.trans hs)]
      refine treeN_same he k (t ++ [n]) (fun x hx => ?_)
      rcases List.mem_append.1 hx with hx | hx
      · exact ht x hx
      · rw [List.mem_singleton.1 hx]
        obtain ⟨_, e, h1, h2⟩ := best_new hs
        rw [h2]; exact he e h1
theorem prg_ref {m : Mp} {root : Vt} (hv : ∀ v ∈ m.vs, KindOk v) (he : ∀ e ∈ m.es, KindOk e.t) : prgTree m root = refTree m root := by
  unfold prgTree refTree
  cases hr : m.vs.any (fun x => decide (x = root)) with
  | false => rfl
  | true =>
    refine treeN_same he _ _ (fun n hn => ?_)
    rw [List.mem_singleton.1 hn]
    obtain ⟨y, hy, hyr⟩ := List.any_eq_true.1 hr
    show KindOk root
    rw [← of_decide_eq_true hyr]
    exact hv y hy
end Go.Proofs.Ytmocggibcniggaa.Kt
namespace Go.Proofs.Ytmocggibcniggaa.Kt
open Go Kw Go.Proofs
theorem mem_ins {v x : Vt} : ∀ {l : List Vt}, x ∈ insV l v ↔ x = v ∨ x ∈ l
  | [] => by unfold insV; simp
  | y :: l => by
    unfold insV
    split
    · rw [List.mem_cons, mem_ins, List.mem_cons]
      constructor
      · rintro (h | h | h)
        · exact .inr (.inl h)
        · exact .inl h
        · exact .inr (.inr h)
      · rintro (h | h | h)
        · exact .inr (.inl h)
        · exact .inl h
        · exact .inr (.inr h)
    · split
      · rename_i h; subst h
        exact ⟨fun h => .inr h, fun h => h.elim (fun e => e ▸ List.mem_cons_self ..) id⟩
      · rw [List.mem_cons]
theorem vS_mem {m : List Vt} {x v : Vt} {y : Ls} : x ∈ vS m y ↔ x ∈ m ∨ (y.age < 3600 ∧ ((y.kind = 1 ∧ y.id = y.adv ∧ x = ⟨1, y.id⟩) ∨ (y.kind = 2 ∧ x = ⟨2, y.id⟩))) := by
  unfold vS
  rw [leB_eq]
  by_cases h : (3600 : Int) ≤ y.age
  · rw [decide_eq_true h]
    exact ⟨.inl, fun k => k.elim id (fun k => absurd k.1 (by omega))⟩
  · rw [decide_eq_false h]
    have ha : y.age < 3600 := by omega
    simp only
    unfold vS2 vS1
    rw [eqB_eq, eqB_eq, eqB_eq]
    by_cases h1 : y.kind = 1
    · by_cases h2 : y.id = y.adv
      · simp [h1, ← h2, ha, mem_ins, or_comm]
      · have e2 : (y.id == y.adv) = false := by simpa using h2
        simp [h1, h2, ha, e2]
    · have e1 : (y.kind == 1) = false := by simpa using h1
      by_cases h2 : y.kind = 2
      · simp [h2, ha, mem_ins, or_comm]
      · have e2 : (y.kind == 2) = false := by simpa using h2
        simp [h1, h2, ha, e1, e2]
theorem vfold_mem {x : Vt} : ∀ {l : List Ls} {m : List Vt}, x ∈ l.foldl vS m ↔ x ∈ m ∨ ∃ y ∈ l, y.age < 3600 ∧ ((y.kind = 1 ∧ y.id = y.adv ∧ x = ⟨1, y.id⟩) ∨ (y.kind = 2 ∧ x = ⟨2, y.id⟩))
  | [], m => by simp
  | y :: l, m => by
    rw [List.foldl_cons, vfold_mem, vS_mem (v := x)]
    simp only [List.mem_cons, exists_eq_or_imp, or_assoc]
theorem verts_mem {x : Vt} {l : List Ls} : x ∈ vertsL l ↔ ∃ y ∈ l, y.age < 3600 ∧ ((y.kind = 1 ∧ y.id = y.adv ∧ x = ⟨1, y.id⟩) ∨ (y.kind = 2 ∧ x = ⟨2, y.id⟩)) := by
  unfold vertsL
  rw [vfold_mem]
  simp
theorem verts_kind {x : Vt} {l : List Ls} (h : x ∈ vertsL l) : KindOk x := by
  obtain ⟨y, _, _, (⟨_, _, rfl⟩ | ⟨_, rfl⟩)⟩ := verts_mem.1 h
  · exact .inl rfl
  · exact .inr rfl
end Go.Proofs.Ytmocggibcniggaa.Kt
namespace Go.Proofs.Ytmocggibcniggaa.Kt
open Go Kw Go.Proofs
theorem find_is {l : List Ls} {v : Vt} {x : Ls} (h : findL l v = some x) : x ∈ l ∧ x.age < 3600 ∧ isV v x = true ∧ x.id = v.i := by
  have : ∀ (l : List Ls) (m : Option Ls), l.foldl (fdS v) m = some x → m = some x ∨ (x ∈ l ∧ x.age < 3600 ∧ isV v x = true ∧ x.id = v.i) := by
    intro l
    induction l with
    | nil => intro m h; exact .inl h
    | cons y l ih =>
      intro m h
      rw [List.foldl_cons] at h
      rcases ih _ h with h | h
      · unfold fdS at h
        split at h
        · rename_i hc
          cases h
          rw [Bool.and_eq_true, Bool.and_eq_true, Bool.and_eq_true] at hc
          exact .inr ⟨List.mem_cons_self .., of_decide_eq_true hc.1, hc.2.1, of_decide_eq_true hc.2.2.1⟩
        · exact .inl h
      · exact .inr ⟨List.mem_cons_of_mem _ h.1, h.2⟩
  rcases this l none h with h | h
  · cases h
  · exact h
theorem find_vert {l : List Ls} {v : Vt} (h : (findL l v).isSome = true) : v ∈ vertsL l := by
  obtain ⟨x, hx⟩ := Option.isSome_iff_exists.1 h
  obtain ⟨h1, h2, h3, h4⟩ := find_is hx
  rw [verts_mem]
  refine ⟨x, h1, h2, ?_⟩
  unfold isV at h3
  rw [Bool.or_eq_true, Bool.and_eq_true, Bool.and_eq_true, Bool.and_eq_true] at h3
  rcases h3 with ⟨a, b, c⟩ | ⟨a, b⟩
  · refine .inl ⟨of_decide_eq_true b, of_decide_eq_true c, ?_⟩
    cases v; simp only [Vt.mk.injEq]; exact ⟨of_decide_eq_true a, h4.symm⟩
  · refine .inr ⟨of_decide_eq_true b, ?_⟩
    cases v; simp only [Vt.mk.injEq]; exact ⟨of_decide_eq_true a, h4.symm⟩
theorem edK1_to {l : List Ls} {v : Vt} {k : Lk} {e : Eg} (h : e ∈ edK1 l v k) : e.t ∈ vertsL l ∧ e.f = v := by
  unfold edK1 at h
  split at h
  · split at h
    · rename_i hc
      rw [Bool.and_eq_true] at hc
      rw [List.mem_singleton.1 h]
      exact ⟨find_vert hc.1, rfl⟩
    · cases h
  · cases h
theorem edK2_to {l : List Ls} {v : Vt} {k : Lk} {e : Eg} (h : e ∈ edK2 l v k) : e.t ∈ vertsL l ∧ e.f = v := by
  unfold edK2 at h
  split at h
  · split at h
    · rename_i hc
      rw [Bool.and_eq_true] at hc
      rw [List.mem_singleton.1 h]
      exact ⟨find_vert hc.1, rfl⟩
    · cases h
  · cases h
theorem edR_to {l : List Ls} {v : Vt} {p : List Int} {r : Int} {e : Eg} (h : e ∈ edR l v p r) : e.t ∈ vertsL l ∧ e.f = v := by
  unfold edR at h
  split at h
  · cases h
  · split at h
    · rename_i hc
      rw [Bool.and_eq_true] at hc
      rw [List.mem_singleton.1 h]
      exact ⟨find_vert hc.1, rfl⟩
    · cases h
theorem edRs_to {l : List Ls} {v : Vt} {rt : List Int} {e : Eg} : ∀ {j : Nat}, e ∈ edRs l v rt j → e.t ∈ vertsL l ∧ e.f = v
  | 0, h => by cases h
  | j + 1, h => by
    unfold edRs at h
    rcases List.mem_append.1 h with h | h
    · exact edRs_to h
    · split at h
      · exact edR_to h
      · cases h
theorem from_to {l : List Ls} {v : Vt} {e : Eg} (h : e ∈ fromL l v) : e.t ∈ vertsL l ∧ e.f = v := by
  unfold fromL at h
  rcases List.mem_append.1 h with h | h
  · obtain ⟨k, _, hk⟩ := List.mem_flatMap.1 h
    rcases List.mem_append.1 hk with hk | hk
    · exact edK1_to hk
    · exact edK2_to hk
  · exact edRs_to h
theorem map_to {l : List Ls} {e : Eg} (h : e ∈ (mapL l).es) : e.t ∈ (mapL l).vs ∧ e.f ∈ (mapL l).vs := by
  obtain ⟨v, hv, he⟩ := List.mem_flatMap.1 h
  obtain ⟨h1, h2⟩ := from_to he
  exact ⟨h1, by rw [h2]; exact hv⟩
theorem map_same (l : List Ls) (root : Vt) : prgTree (mapL l) root = refTree (mapL l) root :=
  prg_ref (fun _ h => verts_kind h) (fun _ h => verts_kind (map_to h).1)
end Go.Proofs.Ytmocggibcniggaa.Kt
namespace Go.Proofs.Ytmocggibcniggaa.Kt
open Go Kw Go.Proofs
attribute [local irreducible] Kw.GI Kw.GR Kw.FnR Kw.FnX
set_option maxHeartbeats 8000000
set_option maxRecDepth 100000
abbrev R1v (x : AV) (v : Vt) : AV → Hp → Sp → Prop := fun r H S => r = x ∧ H = [hV v] ∧ S = []
theorem p1v {x : AV} {v : Vt} (hx : stA x = true) : ∀ r H1 S1, (r = x ∧ H1 = [hV v] ∧ S1 = []) → stA r = true ∧ StH H1 ∧ StS S1 := by
  rintro r H S ⟨rfl, rfl, rfl⟩
  refine ⟨hx, fun e he t cs hs => ?_, fun e he => by cases he⟩
  simp only [List.mem_cons, List.not_mem_nil, or_false] at he
  rcases he with rfl
  cases hs; rfl
theorem Place1_ok (n : Nd) (v : Vt) : FnX Try.prog 85 [n.av, .box 0 0] [hV v] [] (R1v (Bo (decide (n.v = v))) v) := by
  refine fnX_intro (T := TT) (n := 8) Try.func85 rfl rfl rfl (fun w X Z Y B => ?_)
  (repeat (first | (refine r_end ?_) | (refine r_op ?_; first | refine r_pure hT rfl rfl rfl rfl rfl rfl ?_ | refine r_load hT rfl rfl rfl rfl rfl rfl rfl rfl rfl ?_ | refine r_box rfl rfl rfl rfl rfl rfl rfl rfl rfl ?_ | refine r_store hT rfl rfl rfl rfl rfl rfl rfl rfl rfl rfl ?_ | refine r_off rfl rfl rfl rfl rfl ?_ | refine r_alloc hT rfl rfl rfl rfl rfl rfl rfl rfl rfl ?_ | refine r_lit hT rfl rfl rfl rfl rfl rfl rfl rfl rfl rfl rfl rfl rfl ?_ | refine r_off0 rfl rfl rfl rfl ?_ | refine r_storeO hT rfl rfl rfl rfl rfl rfl rfl rfl rfl rfl rfl ?_) | (refine gi_seq ?_) | (refine gi_plain ?_) | (refine gi_skip ?_) | (refine gi_block ?_) | (refine gi_inBlock ?_) | (refine gi_exit rfl ?_) | (refine gi_cnd ?_; first | refine gi_true rfl ?_ | refine gi_false rfl ?_) | (refine gi_label ?_)))
  refine r_eqT _ rfl rfl rfl rfl rfl rfl rfl rfl rfl y_flat_Vt ?_
  (repeat (first | (refine r_end ?_) | (refine r_op ?_; first | refine r_pure hT rfl rfl rfl rfl rfl rfl ?_ | refine r_load hT rfl rfl rfl rfl rfl rfl rfl rfl rfl ?_ | refine r_box rfl rfl rfl rfl rfl rfl rfl rfl rfl ?_ | refine r_store hT rfl rfl rfl rfl rfl rfl rfl rfl rfl rfl ?_ | refine r_off rfl rfl rfl rfl rfl ?_ | refine r_alloc hT rfl rfl rfl rfl rfl rfl rfl rfl rfl ?_ | refine r_lit hT rfl rfl rfl rfl rfl rfl rfl rfl rfl rfl rfl rfl rfl ?_ | refine r_off0 rfl rfl rfl rfl ?_ | refine r_storeO hT rfl rfl rfl rfl rfl rfl rfl rfl rfl rfl rfl ?_) | (refine gi_seq ?_) | (refine gi_plain ?_) | (refine gi_skip ?_) | (refine gi_block ?_) | (refine gi_inBlock ?_) | (refine gi_exit rfl ?_) | (refine gi_cnd ?_; first | refine gi_true rfl ?_ | refine gi_false rfl ?_) | (refine gi_label ?_)))
  refine gi_retX hT Try.func85 rfl [0] [] rfl rfl rfl rfl rfl rfl rfl rfl ?_
  exact ⟨congrArg Bo (veq_eq n.v v), rfl, rfl⟩
theorem IndexN_ok (t : List Nd) (v : Vt) (hl : t.length < 1000000) : FnX Try.prog 84 [rsNd t, .fn 85 [.box 0 0]] [hV v] [] (R1v (I (placeI (placeL t v))) v) := by
  refine fnX_intro (T := TT) (n := 19) Try.func84 rfl rfl rfl (fun w X Z Y B => ?_)
  (repeat (first | (refine r_end ?_) | (refine r_op ?_; first | refine r_pure hT rfl rfl rfl rfl rfl rfl ?_ | refine r_load hT rfl rfl rfl rfl rfl rfl rfl rfl rfl ?_ | refine r_box rfl rfl rfl rfl rfl rfl rfl rfl rfl ?_ | refine r_store hT rfl rfl rfl rfl rfl rfl rfl rfl rfl rfl ?_ | refine r_off rfl rfl rfl rfl rfl ?_ | refine r_alloc hT rfl rfl rfl rfl rfl rfl rfl rfl rfl ?_ | refine r_lit hT rfl rfl rfl rfl rfl rfl rfl rfl rfl rfl rfl rfl rfl ?_ | refine r_off0 rfl rfl rfl rfl ?_ | refine r_storeO hT rfl rfl rfl rfl rfl rfl rfl rfl rfl rfl rfl ?_) | (refine gi_seq ?_) | (refine gi_plain ?_) | (refine gi_skip ?_) | (refine gi_block ?_) | (refine gi_inBlock ?_) | (refine gi_exit rfl ?_) | (refine gi_cnd ?_; first | refine gi_true rfl ?_ | refine gi_false rfl ?_) | (refine gi_label ?_)))
  refine gi_loop (σ := Nat) (fun s => [(8, I s), (7, I t.length), (1, .fn 85 [.box 0 0]), (0, rsNd t), (4, I 0)]) (fun _ => [hV v]) (fun _ => []) (fun s => s ≤ t.length ∧ ∀ i, i < s → ∀ m, t[i]? = some m → m.v ≠ v) (fun s => t.length - s) 0 ⟨Nat.zero_le _, fun i h => absurd h (Nat.not_lt_zero _)⟩ ⟨rfl, by show some (I ((t.map Nd.row).length : Nat)) = _; rw [List.length_map], rfl, rfl, rfl, trivial⟩ ⟨rfl, trivial⟩ trivial (fun _ => rfl) (fun j hj next => ?_)
  obtain ⟨hj, hn⟩ := hj
  (repeat (first | (refine r_end ?_) | (refine r_op ?_; first | refine r_pure hT rfl rfl rfl rfl rfl rfl ?_ | refine r_load hT rfl rfl rfl rfl rfl rfl rfl rfl rfl ?_ | refine r_box rfl rfl rfl rfl rfl rfl rfl rfl rfl ?_ | refine r_store hT rfl rfl rfl rfl rfl rfl rfl rfl rfl rfl ?_ | refine r_off rfl rfl rfl rfl rfl ?_ | refine r_alloc hT rfl rfl rfl rfl rfl rfl rfl rfl rfl ?_ | refine r_lit hT rfl rfl rfl rfl rfl rfl rfl rfl rfl rfl rfl rfl rfl ?_ | refine r_off0 rfl rfl rfl rfl ?_ | refine r_storeO hT rfl rfl rfl rfl rfl rfl rfl rfl rfl rfl rfl ?_) | (refine gi_seq ?_) | (refine gi_plain ?_) | (refine gi_skip ?_) | (refine gi_block ?_) | (refine gi_inBlock ?_) | (refine gi_exit rfl ?_) | (refine gi_cnd ?_; first | refine gi_true rfl ?_ | refine gi_false rfl ?_) | (refine gi_label ?_)))
  refine gi_lt rfl (fun h3 => ?_) (fun h3 => ?_)
  · have hjl : j < t.length := by omega
    obtain ⟨x, hx⟩ : ∃ x, t[j]? = some x := ⟨_, List.getElem?_eq_getElem hjl⟩
    (repeat (first | (refine r_end ?_) | (refine r_op ?_; first | refine r_pure hT rfl rfl rfl rfl rfl rfl ?_ | refine r_load hT rfl rfl rfl rfl rfl rfl rfl rfl rfl ?_ | refine r_box rfl rfl rfl rfl rfl rfl rfl rfl rfl ?_ | refine r_store hT rfl rfl rfl rfl rfl rfl rfl rfl rfl rfl ?_ | refine r_off rfl rfl rfl rfl rfl ?_ | refine r_alloc hT rfl rfl rfl rfl rfl rfl rfl rfl rfl ?_ | refine r_lit hT rfl rfl rfl rfl rfl rfl rfl rfl rfl rfl rfl rfl rfl ?_ | refine r_off0 rfl rfl rfl rfl ?_ | refine r_storeO hT rfl rfl rfl rfl rfl rfl rfl rfl rfl rfl rfl ?_) | (refine gi_seq ?_) | (refine gi_plain ?_) | (refine gi_skip ?_) | (refine gi_block ?_) | (refine gi_inBlock ?_) | (refine gi_exit rfl ?_) | (refine gi_cnd ?_; first | refine gi_true rfl ?_ | refine gi_false rfl ?_) | (refine gi_label ?_)))
    refine r_idx (row := x.row) hT rfl rfl rfl rfl rfl rfl rfl rfl rfl rfl rfl rfl (by (try simp only); omega) (by simp [hx]) ?_
    (repeat (first | (refine r_end ?_) | (refine r_op ?_; first | refine r_pure hT rfl rfl rfl rfl rfl rfl ?_ | refine r_load hT rfl rfl rfl rfl rfl rfl rfl rfl rfl ?_ | refine r_box rfl rfl rfl rfl rfl rfl rfl rfl rfl ?_ | refine r_store hT rfl rfl rfl rfl rfl rfl rfl rfl rfl rfl ?_ | refine r_off rfl rfl rfl rfl rfl ?_ | refine r_alloc hT rfl rfl rfl rfl rfl rfl rfl rfl rfl ?_ | refine r_lit hT rfl rfl rfl rfl rfl rfl rfl rfl rfl rfl rfl rfl rfl ?_ | refine r_off0 rfl rfl rfl rfl ?_ | refine r_storeO hT rfl rfl rfl rfl rfl rfl rfl rfl rfl rfl rfl ?_) | (refine gi_seq ?_) | (refine gi_plain ?_) | (refine gi_skip ?_) | (refine gi_block ?_) | (refine gi_inBlock ?_) | (refine gi_exit rfl ?_) | (refine gi_cnd ?_; first | refine gi_true rfl ?_ | refine gi_false rfl ?_) | (refine gi_label ?_)))
    refine r_callX [0] [] (Place1_ok x v) rfl rfl rfl rfl rfl rfl Try.func85 rfl rfl rfl rfl rfl rfl rfl (p1v rfl) ?_
    rintro r H1 S1 ⟨rfl, rfl, rfl⟩
    (repeat (first | (refine r_end ?_) | (refine r_op ?_; first | refine r_pure hT rfl rfl rfl rfl rfl rfl ?_ | refine r_load hT rfl rfl rfl rfl rfl rfl rfl rfl rfl ?_ | refine r_box rfl rfl rfl rfl rfl rfl rfl rfl rfl ?_ | refine r_store hT rfl rfl rfl rfl rfl rfl rfl rfl rfl rfl ?_ | refine r_off rfl rfl rfl rfl rfl ?_ | refine r_alloc hT rfl rfl rfl rfl rfl rfl rfl rfl rfl ?_ | refine r_lit hT rfl rfl rfl rfl rfl rfl rfl rfl rfl rfl rfl rfl rfl ?_ | refine r_off0 rfl rfl rfl rfl ?_ | refine r_storeO hT rfl rfl rfl rfl rfl rfl rfl rfl rfl rfl rfl ?_) | (refine gi_seq ?_) | (refine gi_plain ?_) | (refine gi_skip ?_) | (refine gi_block ?_) | (refine gi_inBlock ?_) | (refine gi_exit rfl ?_) | (refine gi_cnd ?_; first | refine gi_true rfl ?_ | refine gi_false rfl ?_) | (refine gi_label ?_)))
    refine gi_cond rfl (fun h4 => ?_) (fun h4 => ?_)
    · have hp := placeL_at hn hx (of_decide_eq_true h4)
      (repeat (first | (refine r_end ?_) | (refine r_op ?_; first | refine r_pure hT rfl rfl rfl rfl rfl rfl ?_ | refine r_load hT rfl rfl rfl rfl rfl rfl rfl rfl rfl ?_ | refine r_box rfl rfl rfl rfl rfl rfl rfl rfl rfl ?_ | refine r_store hT rfl rfl rfl rfl rfl rfl rfl rfl rfl rfl ?_ | refine r_off rfl rfl rfl rfl rfl ?_ | refine r_alloc hT rfl rfl rfl rfl rfl rfl rfl rfl rfl ?_ | refine r_lit hT rfl rfl rfl rfl rfl rfl rfl rfl rfl rfl rfl rfl rfl ?_ | refine r_off0 rfl rfl rfl rfl ?_ | refine r_storeO hT rfl rfl rfl rfl rfl rfl rfl rfl rfl rfl rfl ?_) | (refine gi_seq ?_) | (refine gi_plain ?_) | (refine gi_skip ?_) | (refine gi_block ?_) | (refine gi_inBlock ?_) | (refine gi_exit rfl ?_) | (refine gi_cnd ?_; first | refine gi_true rfl ?_ | refine gi_false rfl ?_) | (refine gi_label ?_)))
      refine gi_retX hT Try.func84 rfl [0] [] rfl rfl rfl rfl rfl rfl rfl rfl ?_
      exact ⟨by rw [hp]; rfl, rfl, rfl⟩
    · have hne := of_decide_eq_false h4
      (repeat (first | (refine r_end ?_) | (refine r_op ?_; first | refine r_pure hT rfl rfl rfl rfl rfl rfl ?_ | refine r_load hT rfl rfl rfl rfl rfl rfl rfl rfl rfl ?_ | refine r_box rfl rfl rfl rfl rfl rfl rfl rfl rfl ?_ | refine r_store hT rfl rfl rfl rfl rfl rfl rfl rfl rfl rfl ?_ | refine r_off rfl rfl rfl rfl rfl ?_ | refine r_alloc hT rfl rfl rfl rfl rfl rfl rfl rfl rfl ?_ | refine r_lit hT rfl rfl rfl rfl rfl rfl rfl rfl rfl rfl rfl rfl rfl ?_ | refine r_off0 rfl rfl rfl rfl ?_ | refine r_storeO hT rfl rfl rfl rfl rfl rfl rfl rfl rfl rfl rfl ?_) | (refine gi_seq ?_) | (refine gi_plain ?_) | (refine gi_skip ?_) | (refine gi_block ?_) | (refine gi_inBlock ?_) | (refine gi_exit rfl ?_) | (refine gi_cnd ?_; first | refine gi_true rfl ?_ | refine gi_false rfl ?_) | (refine gi_label ?_)))
      refine next (j + 1) _ _ _ ⟨hjl, fun i hi m hm => ?_⟩ (by omega) ⟨?_, rfl, rfl, rfl, rfl, trivial⟩ ⟨rfl, trivial⟩ trivial
      · rcases Nat.lt_succ_iff_lt_or_eq.1 hi with hi | rfl
        · exact hn i hi m hm
        · rw [hx] at hm; cases hm; exact hne
      · show some (I (wr .i64 ((j : Int) + 1))) = _
        rw [wr_i64 (by omega) (by omega)]
        simp
  · have hp : placeL t v = none := placeL_no (fun n hm => by
      obtain ⟨i, hi⟩ := List.mem_iff_getElem?.1 hm
      exact hn i (by have := (List.getElem?_eq_some_iff.1 hi).1; omega) n hi)
    (repeat (first | (refine r_end ?_) | (refine r_op ?_; first | refine r_pure hT rfl rfl rfl rfl rfl rfl ?_ | refine r_load hT rfl rfl rfl rfl rfl rfl rfl rfl rfl ?_ | refine r_box rfl rfl rfl rfl rfl rfl rfl rfl rfl ?_ | refine r_store hT rfl rfl rfl rfl rfl rfl rfl rfl rfl rfl ?_ | refine r_off rfl rfl rfl rfl rfl ?_ | refine r_alloc hT rfl rfl rfl rfl rfl rfl rfl rfl rfl ?_ | refine r_lit hT rfl rfl rfl rfl rfl rfl rfl rfl rfl rfl rfl rfl rfl ?_ | refine r_off0 rfl rfl rfl rfl ?_ | refine r_storeO hT rfl rfl rfl rfl rfl rfl rfl rfl rfl rfl rfl ?_) | (refine gi_seq ?_) | (refine gi_plain ?_) | (refine gi_skip ?_) | (refine gi_block ?_) | (refine gi_inBlock ?_) | (refine gi_exit rfl ?_) | (refine gi_cnd ?_; first | refine gi_true rfl ?_ | refine gi_false rfl ?_) | (refine gi_label ?_)))
    refine gi_retX hT Try.func84 rfl [0] [] rfl rfl rfl rfl rfl rfl rfl rfl ?_
    exact ⟨by rw [hp]; rfl, rfl, rfl⟩
theorem pPlace_ok (t : List Nd) (v : Vt) (hl : t.length < 1000000) : FnR Try.prog 61 [rsNd t, v.av] (RI (placeI (placeL t v))) := by
  refine fnR_intro (T := TT) (n := 8) Try.func61 rfl rfl rfl (fun w Z => ?_)
  (repeat (first | (refine r_end ?_) | (refine r_op ?_; first | refine r_pure hT rfl rfl rfl rfl rfl rfl ?_ | refine r_load hT rfl rfl rfl rfl rfl rfl rfl rfl rfl ?_ | refine r_box rfl rfl rfl rfl rfl rfl rfl rfl rfl ?_ | refine r_store hT rfl rfl rfl rfl rfl rfl rfl rfl rfl rfl ?_ | refine r_off rfl rfl rfl rfl rfl ?_ | refine r_alloc hT rfl rfl rfl rfl rfl rfl rfl rfl rfl ?_ | refine r_lit hT rfl rfl rfl rfl rfl rfl rfl rfl rfl rfl rfl rfl rfl ?_ | refine r_off0 rfl rfl rfl rfl ?_ | refine r_storeO hT rfl rfl rfl rfl rfl rfl rfl rfl rfl rfl rfl ?_) | (refine gi_seq ?_) | (refine gi_plain ?_) | (refine gi_skip ?_) | (refine gi_block ?_) | (refine gi_inBlock ?_) | (refine gi_exit rfl ?_) | (refine gi_cnd ?_; first | refine gi_true rfl ?_ | refine gi_false rfl ?_) | (refine gi_label ?_)))
  refine r_callX [0] [] (IndexN_ok t v hl) rfl rfl rfl rfl rfl rfl Try.func84 rfl rfl rfl rfl rfl rfl rfl (p1v rfl) ?_
  rintro r H1 S1 ⟨rfl, rfl, rfl⟩
  (repeat (first | (refine r_end ?_) | (refine r_op ?_; first | refine r_pure hT rfl rfl rfl rfl rfl rfl ?_ | refine r_load hT rfl rfl rfl rfl rfl rfl rfl rfl rfl ?_ | refine r_box rfl rfl rfl rfl rfl rfl rfl rfl rfl ?_ | refine r_store hT rfl rfl rfl rfl rfl rfl rfl rfl rfl rfl ?_ | refine r_off rfl rfl rfl rfl rfl ?_ | refine r_alloc hT rfl rfl rfl rfl rfl rfl rfl rfl rfl ?_ | refine r_lit hT rfl rfl rfl rfl rfl rfl rfl rfl rfl rfl rfl rfl rfl ?_ | refine r_off0 rfl rfl rfl rfl ?_ | refine r_storeO hT rfl rfl rfl rfl rfl rfl rfl rfl rfl rfl rfl ?_) | (refine gi_seq ?_) | (refine gi_plain ?_) | (refine gi_skip ?_) | (refine gi_block ?_) | (refine gi_inBlock ?_) | (refine gi_exit rfl ?_) | (refine gi_cnd ?_; first | refine gi_true rfl ?_ | refine gi_false rfl ?_) | (refine gi_label ?_)))
  refine gi_retW hT Try.func61 rfl rfl [] rfl rfl rfl rfl ?_
  exact ⟨rfl, rfl⟩
end Go.Proofs.Ytmocggibcniggaa.Kt
namespace Go.Proofs.Ytmocggibcniggaa.Kt
open Go Kw Go.Proofs
attribute [local irreducible] Kw.GI Kw.GR Kw.FnR Kw.FnX
set_option maxHeartbeats 8000000
set_option maxRecDepth 100000
end Go.Proofs.Ytmocggibcniggaa.Kt
namespace Go.Proofs.Ytmocggibcniggaa.Kt
open Go Kw Go.Proofs
attribute [local irreducible] Kw.GI Kw.GR Kw.FnR Kw.FnX
set_option maxHeartbeats 8000000
set_option maxRecDepth 100000
/-! ### lists that are read -/
abbrev Ls.rowR (x : Ls) : List RV := [.v (.int .i64 x.age), .v (.int .i64 x.kind), .v (.int .i64 x.id), .v (.int .i64 x.adv), .v (.int .i64 x.seq), .v (.int .i64 x.sum), .v (.int .i64 x.len), .v (.int .i64 x.fl), .rs 4 (x.lk.map Lk.row), .v (.int .i64 x.bits), .rs 1 (x.rt.map nRow), .rs 2 (x.vt.map Vt.row)]
abbrev rsL (l : List Ls) : AV := .r (.rs 12 (l.map Ls.rowR))
/-! ### the trees, as plain answers -/
theorem pl_Nd (l : List Nd) : ∀ row ∈ l.map Nd.row, ∀ x ∈ row, ∃ v, x = RV.v v := by
  intro row hr x hx
  obtain ⟨n, _, rfl⟩ := List.mem_map.1 hr
  simp only [Nd.row, List.mem_cons, List.not_mem_nil, or_false] at hx
  rcases hx with rfl | rfl | rfl | rfl | rfl <;> exact ⟨_, rfl⟩
abbrev RT1 (t : List Nd) : AV → Sp → Prop := fun r S => r = .sl 0 ∧ S = [eNd t]
theorem pT1 {l : List Nd} : ∀ r S1, (r = .sl 0 ∧ S1 = [eNd l]) → plainA r = true ∧ PlainS S1 := by
  rintro r S ⟨rfl, rfl⟩
  refine ⟨rfl, fun e he s hs => ?_⟩
  rw [List.mem_singleton] at he
  subst he
  cases hs
  exact ⟨rfl, pl_Nd l⟩
theorem rTreeR (m : Mp) (root : Vt) (hv : m.vs.length ≤ 10000) (he : m.es.length ≤ 10000000) : FnR Try.prog 50 [avMf m, root.av] (RT1 (refTree m root)) :=
  fnR_of ((rTree_ok m root hv he).mono (fun r H S h => ⟨h.2.1, h.1, h.2.2⟩))
theorem pTreeR (m : Mp) (root : Vt) (hv : m.vs.length ≤ 10000) (he : m.es.length ≤ 10000000) (hto : ∀ e ∈ m.es, m.vs.any (fun x => decide (x = e.t)) = true) : FnR Try.prog 49 [avMf m, root.av] (RT1 (prgTree m root)) :=
  fnR_of ((pTree_ok m root hv he hto).mono (fun r H S h => ⟨h.2.1, h.1, h.2.2⟩))
theorem treeN_len {bt : List Nd → Nd → Nd → Bool} {es : List Eg} : ∀ (k : Nat) (t : List Nd), (treeN bt es k t).length ≤ t.length + k
  | 0, t => by unfold treeN; omega
  | k + 1, t => by
    cases hb : bestL bt t es with
    | none => rw [treeN_none hb]; omega
    | some n =>
      rw [treeN_some hb]
      have := treeN_len (bt := bt) (es := es) k (t ++ [n])
      rw [List.length_append, List.length_singleton] at this
      omega
theorem refTree_len (m : Mp) (root : Vt) : (refTree m root).length ≤ m.vs.length + 1 := by
  unfold refTree
  split
  · have := treeN_len (bt := soon) (es := m.es) m.vs.length [rootN root]
    rw [List.length_singleton] at this
    omega
  · exact Nat.zero_le _
theorem map_vs {l : List Ls} (h : Few l) : (mapL l).vs.length ≤ 2000 := by
  have := verts_len l
  have := h.len
  show (vertsL l).length ≤ _
  omega
theorem map_es {l : List Ls} (h : Few l) : (mapL l).es.length ≤ 10000000 := by
  have h1 := flat_len (f := fromL l) (c := 3000) (fun v => from_len h v) (vertsL l)
  have h2 := map_vs h
  have h3 : (vertsL l).length ≤ 2000 := h2
  show ((vertsL l).flatMap (fromL l)).length ≤ _
  omega
theorem map_any {l : List Ls} : ∀ e ∈ (mapL l).es, (mapL l).vs.any (fun x => decide (x = e.t)) = true := fun e he =>
  List.any_eq_true.2 ⟨e.t, (map_to he).1, decide_eq_true rfl⟩
/-- The trees of the map of a short list. -/
theorem pTreeL (l : List Ls) (root : Vt) (h : Few l) : FnR Try.prog 49 [avMf (mapL l), root.av] (RT1 (refTree (mapL l) root)) := by
  have := pTreeR (mapL l) root (Nat.le_trans (map_vs h) (by decide)) (map_es h) map_any
  rwa [map_same] at this
theorem rTreeL (l : List Ls) (root : Vt) (h : Few l) : FnR Try.prog 50 [avMf (mapL l), root.av] (RT1 (refTree (mapL l) root)) :=
  rTreeR (mapL l) root (Nat.le_trans (map_vs h) (by decide)) (map_es h)
theorem tree_lt {l : List Ls} (h : Few l) (root : Vt) : (refTree (mapL l) root).length < 1000000 := by
  have := refTree_len (mapL l) root
  have := map_vs h
  omega
theorem pl_rows {α : Type} {f : α → List RV} (hf : ∀ x, ∀ c ∈ f x, ∃ v, c = RV.v v) (l : List α) : ∀ row ∈ l.map f, ∀ x ∈ row, ∃ v, x = RV.v v := by
  intro row hr x hx
  obtain ⟨n, _, rfl⟩ := List.mem_map.1 hr
  exact hf n x hx
theorem pMapP {m : Mp} : ∀ r S1, (r = avM ∧ S1 = SM m) → plainA r = true ∧ PlainS S1 := by
  rintro r S ⟨rfl, rfl⟩
  refine ⟨rfl, fun e he s hs => ?_⟩
  simp only [SM, List.mem_cons, List.not_mem_nil, or_false] at he
  rcases he with rfl | rfl | rfl | rfl | rfl <;> cases hs
  · exact ⟨rfl, pl_rows (fun x c hc => by simp only [List.mem_cons, List.not_mem_nil, or_false] at hc; rcases hc with rfl | rfl <;> exact ⟨_, rfl⟩) _⟩
  · exact ⟨rfl, pl_rows (fun x c hc => by simp only [List.mem_cons, List.not_mem_nil, or_false] at hc; rcases hc with rfl | rfl | rfl | rfl | rfl | rfl <;> exact ⟨_, rfl⟩) _⟩
  · exact ⟨rfl, pl_rows (fun x c hc => by simp only [List.mem_cons, List.not_mem_nil, or_false] at hc; rcases hc with rfl | rfl | rfl | rfl <;> exact ⟨_, rfl⟩) _⟩
  · exact ⟨rfl, pl_rows (fun x c hc => by simp only [List.mem_cons, List.not_mem_nil, or_false] at hc; rcases hc with rfl | rfl | rfl | rfl <;> exact ⟨_, rfl⟩) _⟩
  · exact ⟨rfl, pl_rows (fun x c hc => by simp only [List.mem_cons, List.not_mem_nil, or_false] at hc; rcases hc with rfl; exact ⟨_, rfl⟩) _⟩
abbrev RM (l : List Ls) : AV → Sp → Prop := fun r S => r = avM ∧ S = SM (mapL l)
theorem MapF (l : List Ls) (h : Few l) : FnR Try.prog 15 [fsL l] (RM l) := fnR_of ((Map_ok l h).mono (fun r H S h => ⟨h.2.1, h.1, h.2.2⟩))
end Go.Proofs.Ytmocggibcniggaa.Kt
namespace Go.Proofs.Ytmocggibcniggaa.Kt
open Go Kw Go.Proofs
set_option maxRecDepth 100000
set_option maxHeartbeats 4000000
theorem own : ownKnob Try.prog.godebug = none := by kernel_rfl
theorem laidOut : laidOutB Try.prog = true := by kernel_rfl
structure Hd7 where
  a : Int
  b : Int
  c : Int
  d : Int
  e : Int
  f : Int
  g : Int
abbrev Hd7.row (h : Hd7) : List RV := [.v (.int .i64 h.a), .v (.int .i64 h.b), .v (.int .i64 h.c), .v (.int .i64 h.d), .v (.int .i64 h.e), .v (.int .i64 h.f), .v (.int .i64 h.g)]
section
variable {H : Type} {enc : TypeId × Value → H} {w : World} {base b0 : Nat} {spare : Nat → Bool} {held : Bool} {v : Value} {d : DataW H} {p : List MemPlace}
end
end Go.Proofs.Ytmocggibcniggaa.Kt
namespace Go.Proofs.Ytmocggibcniggaa.Kt
open Go Kw Go.Proofs
attribute [local irreducible] Kw.GI Kw.GR Kw.FnR Kw.FnX
set_option maxHeartbeats 8000000
set_option maxRecDepth 100000
theorem IndexI_ok (l : List Int) (v : Int) (hl : l.length < 1000000) : FnR Try.prog 82 [rsN l, I v] (fun r S => (∃ n : Int, r = I n ∧ leB 0 n = l.any (fun x => decide (x = v))) ∧ S = []) := by
  refine fnR_intro (T := TT) (n := 19) Try.func82 rfl rfl rfl (fun w Z => ?_)
  (repeat (first | refine r_end ?_ | (refine r_op ?_; refine r_pure hT rfl rfl rfl rfl rfl rfl ?_) | refine gi_seq ?_ | refine gi_plain ?_ | refine gi_block ?_))
  refine gi_loop (σ := Nat) (fun j => [(8, I j), (7, I l.length), (1, I v), (0, rsN l)]) (fun _ => []) (fun _ => []) (fun j => j ≤ l.length ∧ (l.take j).any (fun x => decide (x = v)) = false) (fun j => l.length - j) 0 ⟨Nat.zero_le _, rfl⟩ ⟨rfl, by show some (I ((l.map nRow).length : Nat)) = _; rw [List.length_map], rfl, rfl, trivial⟩ trivial trivial (fun _ => rfl) (fun j hj next => ?_)
  obtain ⟨hj, hn⟩ := hj
  (repeat (first | refine r_end ?_ | (refine r_op ?_; refine r_pure hT rfl rfl rfl rfl rfl rfl ?_) | refine gi_seq ?_ | refine gi_plain ?_))
  refine gi_lt rfl (fun h3 => ?_) (fun h3 => ?_)
  · have hjl : j < l.length := by omega
    obtain ⟨x, hx⟩ : ∃ x, l[j]? = some x := ⟨_, List.getElem?_eq_getElem hjl⟩
    have hat := any_take (fun x => decide (x = v)) hx
    rw [hn, Bool.false_or] at hat
    (repeat (first | refine r_end ?_ | (refine r_op ?_; refine r_pure hT rfl rfl rfl rfl rfl rfl ?_) | refine gi_seq ?_ | refine gi_plain ?_ | refine gi_skip ?_ | refine gi_block ?_))
    refine r_idx (row := nRow x) hT rfl rfl rfl rfl rfl rfl rfl rfl rfl rfl rfl rfl (by omega) (by simp [hx]) ?_
    (repeat (first | refine r_end ?_ | (refine r_op ?_; first | refine r_pure hT rfl rfl rfl rfl rfl rfl ?_ | refine r_load hT rfl rfl rfl rfl rfl rfl rfl rfl rfl ?_)))
    refine gi_eq rfl (fun hvx => ?_) (fun hvx => ?_)
    · (repeat (first | refine r_end ?_ | (refine r_op ?_; refine r_pure hT rfl rfl rfl rfl rfl rfl ?_) | refine gi_seq ?_ | refine gi_plain ?_))
      refine gi_retW hT Try.func82 rfl rfl [] rfl rfl rfl rfl ?_
      refine ⟨⟨j, rfl, ?_⟩, rfl⟩
      have : l.any (fun x => decide (x = v)) = true := List.any_eq_true.2 ⟨x, List.mem_of_getElem? hx, decide_eq_true hvx.symm⟩
      rw [this, leB_eq]
      exact decide_eq_true (by omega)
    · (repeat (first | refine r_end ?_ | (refine r_op ?_; refine r_pure hT rfl rfl rfl rfl rfl rfl ?_) | refine gi_plain ?_ | refine gi_skip ?_ | refine gi_inBlock ?_))
      refine next (j + 1) _ _ _ ⟨hjl, by rw [hat]; exact decide_eq_false (fun e => hvx e.symm)⟩ (by omega) ⟨?_, rfl, rfl, rfl, trivial⟩ trivial trivial
      show some (I (wr .i64 ((j : Int) + 1))) = _
      rw [wr_i64 (by omega) (by omega)]
      simp
  · have hjl : j = l.length := by omega
    subst hjl
    rw [List.take_length] at hn
    (repeat (first | refine r_end ?_ | (refine r_op ?_; refine r_pure hT rfl rfl rfl rfl rfl rfl ?_) | refine gi_seq ?_ | refine gi_plain ?_ | refine gi_exit rfl ?_))
    refine gi_retW hT Try.func82 rfl rfl [] rfl rfl rfl rfl ?_
    refine ⟨⟨-1, rfl, ?_⟩, rfl⟩
    rw [hn, leB_eq]; rfl
theorem ContainsI_ok (l : List Int) (v : Int) (hl : l.length < 1000000) : FnR Try.prog 54 [rsN l, I v] (RB (l.any (fun x => decide (x = v)))) := by
  refine fnR_intro (T := TT) (n := 9) Try.func54 rfl rfl rfl (fun w Z => ?_)
  (repeat (first | refine r_end ?_ | (refine r_op ?_; refine r_pure hT rfl rfl rfl rfl rfl rfl ?_) | refine gi_seq ?_ | refine gi_plain ?_))
  refine r_call (IndexI_ok l v hl) rfl rfl rfl rfl rfl rfl rfl rfl Try.func82 rfl rfl rfl pIx ?_
  rintro r S1 ⟨⟨n, rfl, hn⟩, rfl⟩
  (repeat (first | refine r_end ?_ | (refine r_op ?_; refine r_pure hT rfl rfl rfl rfl rfl rfl ?_)))
  refine gi_retW hT Try.func54 rfl rfl [] rfl rfl rfl rfl ?_
  exact ⟨by rw [← hn], rfl⟩
/-- The nearer one, of those that are. -/
def nearI (a b : Int) : Int := if a < 0 then b else if b < 0 then a else if a ≤ b then a else b
theorem nearest_ok (a b : Int) : FnR Try.prog 56 [I a, I b] (RI (nearI a b)) := by
  refine fnR_intro (T := TT) (n := 16) Try.func56 rfl rfl rfl (fun w Z => ?_)
  (repeat (first | refine r_end ?_ | (refine r_op ?_; refine r_pure hT rfl rfl rfl rfl rfl rfl ?_) | refine gi_seq ?_ | refine gi_plain ?_ | refine gi_block ?_))
  refine gi_lt rfl (fun h3 => ?_) (fun h3 => ?_)
  · (repeat (first | refine r_end ?_ | (refine r_op ?_; refine r_pure hT rfl rfl rfl rfl rfl rfl ?_) | refine gi_seq ?_ | refine gi_plain ?_))
    refine gi_retW hT Try.func56 rfl rfl [] rfl rfl rfl rfl ?_
    exact ⟨by unfold nearI; rw [if_pos h3], rfl⟩
  (repeat (first | refine r_end ?_ | (refine r_op ?_; refine r_pure hT rfl rfl rfl rfl rfl rfl ?_) | refine gi_seq ?_ | refine gi_plain ?_))
  refine gi_lt rfl (fun h4 => ?_) (fun h4 => ?_)
  · (repeat (first | refine r_end ?_ | (refine r_op ?_; refine r_pure hT rfl rfl rfl rfl rfl rfl ?_) | refine gi_seq ?_ | refine gi_plain ?_))
    refine gi_retW hT Try.func56 rfl rfl [] rfl rfl rfl rfl ?_
    exact ⟨by unfold nearI; rw [if_neg (by omega), if_pos h4], rfl⟩
  (repeat (first | refine r_end ?_ | (refine r_op ?_; refine r_pure hT rfl rfl rfl rfl rfl rfl ?_) | refine gi_seq ?_ | refine gi_plain ?_ | refine gi_skip ?_ | refine gi_inBlock ?_))
  refine gi_retW hT Try.func56 rfl rfl [] rfl rfl rfl rfl ?_
  refine ⟨?_, rfl⟩
  unfold nearI
  rw [if_neg (by omega), if_neg (by omega)]
  show I _ = _
  congr 4
  unfold mm
  show (if b < a then b else a) = _
  rcases Int.lt_or_le b a with h | h
  · rw [if_pos h, if_neg (show ¬ a ≤ b by omega)]
  · rw [if_neg (show ¬ b < a by omega), if_pos h]
abbrev fsNd (t : List Nd) : AV := .r (.fs 5 (t.map Nd.row))
abbrev hTt (t : List Nd) : Option (TypeId × List AV) := some (37, [fsNd t])
theorem Backward_ok (t : List Nd) : FnX Try.prog 53 [fsNd t] [] [] (fun r H S => r = .fn 81 [.box 0 0] ∧ H = [hTt t] ∧ S = []) := by
  refine fnX_intro (T := TT) (n := 4) Try.func53 rfl rfl rfl (fun w X Z Y B => ?_)
  (repeat (first | refine r_end ?_ | (refine r_op ?_; first | refine r_pure hT rfl rfl rfl rfl rfl rfl ?_ | refine r_box rfl rfl rfl rfl rfl rfl rfl rfl rfl ?_) | refine gi_seq ?_ | refine gi_plain ?_))
  refine gi_retX hT Try.func53 rfl [0] [] rfl rfl rfl rfl rfl rfl rfl rfl ?_
  exact ⟨rfl, rfl, rfl⟩
end Go.Proofs.Ytmocggibcniggaa.Kt
namespace Go.Proofs.Ytmocggibcniggaa.Kt
open Go Kw Go.Proofs
attribute [local irreducible] Kw.GI Kw.GR Kw.FnR Kw.FnX
set_option maxHeartbeats 8000000
set_option maxRecDepth 100000
abbrev hVs (l : List Vt) : Option (TypeId × List AV) := some (25, [rsV l])
abbrev hSl (k : Nat) : Option (TypeId × List AV) := some (29, [.sl k])
abbrev hRm (m : Mp) : Option (TypeId × List AV) := some (31, [.r (.rs 2 (m.vs.map Vt.row)), .r (.rs 6 (m.es.map Eg.row)), .r (.rs 4 (m.sb.map Sb.row)), .r (.rs 4 (m.sn.map Sn.row)), .r (.rs 1 (m.wl.map nRow))])
abbrev H6 (t : List Nd) (m : Mp) (ms : List Vt) : Hp := [hTt t, hMf m, hVs ms, hSl 0, hSl 1, hTt t]
abbrev F5 : Fr := [(3, .box 0 0), (4, .box 1 0), (5, .box 2 0), (7, .box 3 0), (8, .box 4 0)]
/-- The iterator, if its rounds keep Inv. -/
theorem iter_ok {l : Nat} {r : Loop} {t : List Nd} {m : Mp} {ms : List Vt} (hl : t.length < 1000000) (hps : r.params.size = 2) (Inv : Nat → List Int → List Int → Prop) (o d : List Int) (h0 : Inv t.length o d)
    (hrd : ∀ i np o d, t[i]? = some np → Inv (i + 1) o d → RdSpec Try.prog l r [I i, np.av] F5 (H6 t m ms) [eN o, eN d] (fun H S => H = H6 t m ms ∧ ∃ o' d', S = [eN o', eN d'] ∧ Inv i o' d')) :
    ItSpec Try.prog 81 l r [yieldA l, .box 5 0] F5 (H6 t m ms) [eN o, eN d] (fun H S => H = H6 t m ms ∧ ∃ o' d', S = [eN o', eN d'] ∧ Inv 0 o' d') := by
  refine it_intro (T := TT) (n := 19) Try.func81 rfl rfl rfl (fun w X hX hwl hf hsn => ?_)
  obtain ⟨xX, xZ, xY, xnb, xB, xnv, xV⟩ := X
  obtain ⟨hX, hXv⟩ := hX
  have hX : xnb = 6 := hX
  have hXv : xnv = 0 := hXv
  subst hX
  subst hXv
  (repeat (first | (refine r_end ?_) | (refine r_op ?_; first | refine r_pure hT rfl rfl rfl rfl rfl rfl ?_ | refine r_load hT rfl rfl rfl rfl rfl rfl rfl rfl rfl ?_ | refine r_box rfl rfl rfl rfl rfl rfl rfl rfl rfl ?_ | refine r_store hT rfl rfl rfl rfl rfl rfl rfl rfl rfl rfl ?_ | refine r_off rfl rfl rfl rfl rfl ?_ | refine r_alloc hT rfl rfl rfl rfl rfl rfl rfl rfl rfl ?_ | refine r_lit hT rfl rfl rfl rfl rfl rfl rfl rfl rfl rfl rfl rfl rfl ?_ | refine r_off0 rfl rfl rfl rfl ?_ | refine r_storeO hT rfl rfl rfl rfl rfl rfl rfl rfl rfl rfl rfl ?_) | (refine gi_seq ?_) | (refine gi_plain ?_) | (refine gi_skip ?_) | (refine gi_block ?_) | (refine gi_inBlock ?_) | (refine gi_exit rfl ?_) | (refine gi_cnd ?_; first | refine gi_true rfl ?_ | refine gi_false rfl ?_) | (refine gi_label ?_)))
  refine gi_loop (σ := Nat × (List Int × List Int)) (fun s => [(3, I ((s.1 : Int) - 1)), (0, yieldA l), (1, .box 5 0)]) (fun _ => H6 t m ms) (fun s => [eN s.2.1, eN s.2.2]) (fun s => s.1 ≤ t.length ∧ Inv s.1 s.2.1 s.2.2) (fun s => s.1) (t.length, (o, d)) ⟨Nat.le_refl _, h0⟩ ⟨?_, rfl, rfl, trivial⟩ ⟨rfl, rfl, rfl, rfl, rfl, rfl, trivial⟩ ⟨rfl, rfl, trivial⟩ (fun _ => rfl) (fun s hs next => ?_)
  · show some (I (wr .i64 ((((t.map Nd.row).length : Nat) : Int) - 1))) = _
    rw [List.length_map, wr_i64 (by omega) (by omega)]
  obtain ⟨i, o1, d1⟩ := s
  obtain ⟨hi, hI⟩ := hs
  simp only at hi hI
  (repeat (first | (refine r_end ?_) | (refine r_op ?_; first | refine r_pure hT rfl rfl rfl rfl rfl rfl ?_ | refine r_load hT rfl rfl rfl rfl rfl rfl rfl rfl rfl ?_ | refine r_box rfl rfl rfl rfl rfl rfl rfl rfl rfl ?_ | refine r_store hT rfl rfl rfl rfl rfl rfl rfl rfl rfl rfl ?_ | refine r_off rfl rfl rfl rfl rfl ?_ | refine r_alloc hT rfl rfl rfl rfl rfl rfl rfl rfl rfl ?_ | refine r_lit hT rfl rfl rfl rfl rfl rfl rfl rfl rfl rfl rfl rfl rfl ?_ | refine r_off0 rfl rfl rfl rfl ?_ | refine r_storeO hT rfl rfl rfl rfl rfl rfl rfl rfl rfl rfl rfl ?_) | (refine gi_seq ?_) | (refine gi_plain ?_) | (refine gi_skip ?_) | (refine gi_block ?_) | (refine gi_inBlock ?_) | (refine gi_exit rfl ?_) | (refine gi_cnd ?_; first | refine gi_true rfl ?_ | refine gi_false rfl ?_) | (refine gi_label ?_)))
  refine gi_le (p := 0) (q := (i : Int) - 1) rfl (fun h3 => ?_) (fun h3 => ?_)
  · obtain ⟨j, rfl⟩ : ∃ j, i = j + 1 := ⟨i - 1, by omega⟩
    obtain ⟨x, hx⟩ : ∃ x, t[j]? = some x := ⟨_, List.getElem?_eq_getElem (by omega)⟩
    have hj : (((j + 1 : Nat) : Int) - 1) = j := by omega
    refine gi_turn (d := 3) (y := I (j : Int)) rfl (by rw [hj]) ?_
    (repeat (first | (refine r_end ?_) | (refine r_op ?_; first | refine r_pure hT rfl rfl rfl rfl rfl rfl ?_ | refine r_load hT rfl rfl rfl rfl rfl rfl rfl rfl rfl ?_ | refine r_box rfl rfl rfl rfl rfl rfl rfl rfl rfl ?_ | refine r_store hT rfl rfl rfl rfl rfl rfl rfl rfl rfl rfl ?_ | refine r_off rfl rfl rfl rfl rfl ?_ | refine r_alloc hT rfl rfl rfl rfl rfl rfl rfl rfl rfl ?_ | refine r_lit hT rfl rfl rfl rfl rfl rfl rfl rfl rfl rfl rfl rfl rfl ?_ | refine r_off0 rfl rfl rfl rfl ?_ | refine r_storeO hT rfl rfl rfl rfl rfl rfl rfl rfl rfl rfl rfl ?_) | (refine gi_seq ?_) | (refine gi_plain ?_) | (refine gi_skip ?_) | (refine gi_block ?_) | (refine gi_inBlock ?_) | (refine gi_exit rfl ?_) | (refine gi_cnd ?_; first | refine gi_true rfl ?_ | refine gi_false rfl ?_) | (refine gi_label ?_)))
    refine r_thaw 13 rfl ?_
    refine r_idx (row := x.row) hT rfl rfl rfl rfl rfl rfl rfl rfl rfl rfl rfl rfl (by omega) (by simp [hx]) ?_
    (repeat (first | (refine r_end ?_) | (refine r_op ?_; first | refine r_pure hT rfl rfl rfl rfl rfl rfl ?_ | refine r_load hT rfl rfl rfl rfl rfl rfl rfl rfl rfl ?_ | refine r_box rfl rfl rfl rfl rfl rfl rfl rfl rfl ?_ | refine r_store hT rfl rfl rfl rfl rfl rfl rfl rfl rfl rfl ?_ | refine r_off rfl rfl rfl rfl rfl ?_ | refine r_alloc hT rfl rfl rfl rfl rfl rfl rfl rfl rfl ?_ | refine r_lit hT rfl rfl rfl rfl rfl rfl rfl rfl rfl rfl rfl rfl rfl ?_ | refine r_off0 rfl rfl rfl rfl ?_ | refine r_storeO hT rfl rfl rfl rfl rfl rfl rfl rfl rfl rfl rfl ?_) | (refine gi_seq ?_) | (refine gi_plain ?_) | (refine gi_skip ?_) | (refine gi_block ?_) | (refine gi_inBlock ?_) | (refine gi_exit rfl ?_) | (refine gi_cnd ?_; first | refine gi_true rfl ?_ | refine gi_false rfl ?_) | (refine gi_label ?_)))
    refine r_yield (l := l) (r := r) (xs := [I (j : Int), x.av]) (Fs := F5) (Post := fun H S => H = H6 t m ms ∧ ∃ o' d', S = [eN o', eN d'] ∧ Inv j o' d') rfl rfl rfl rfl rfl rfl rfl rfl rfl (by rw [hps]; rfl) hwl hf hsn rfl (hrd j x o1 d1 hx hI) ?_
    rintro H1 S1 ⟨rfl, o2, d2, rfl, hI2⟩
    (repeat (first | (refine r_end ?_) | (refine r_op ?_; first | refine r_pure hT rfl rfl rfl rfl rfl rfl ?_ | refine r_load hT rfl rfl rfl rfl rfl rfl rfl rfl rfl ?_ | refine r_box rfl rfl rfl rfl rfl rfl rfl rfl rfl ?_ | refine r_store hT rfl rfl rfl rfl rfl rfl rfl rfl rfl rfl ?_ | refine r_off rfl rfl rfl rfl rfl ?_ | refine r_alloc hT rfl rfl rfl rfl rfl rfl rfl rfl rfl ?_ | refine r_lit hT rfl rfl rfl rfl rfl rfl rfl rfl rfl rfl rfl rfl rfl ?_ | refine r_off0 rfl rfl rfl rfl ?_ | refine r_storeO hT rfl rfl rfl rfl rfl rfl rfl rfl rfl rfl rfl ?_) | (refine gi_seq ?_) | (refine gi_plain ?_) | (refine gi_skip ?_) | (refine gi_block ?_) | (refine gi_inBlock ?_) | (refine gi_exit rfl ?_) | (refine gi_cnd ?_; first | refine gi_true rfl ?_ | refine gi_false rfl ?_) | (refine gi_label ?_)))
    refine gi_known (d := 18) (b := false) rfl (by rw [notB_eq]; rfl) ?_
    (repeat (first | (refine r_end ?_) | (refine r_op ?_; first | refine r_pure hT rfl rfl rfl rfl rfl rfl ?_ | refine r_load hT rfl rfl rfl rfl rfl rfl rfl rfl rfl ?_ | refine r_box rfl rfl rfl rfl rfl rfl rfl rfl rfl ?_ | refine r_store hT rfl rfl rfl rfl rfl rfl rfl rfl rfl rfl ?_ | refine r_off rfl rfl rfl rfl rfl ?_ | refine r_alloc hT rfl rfl rfl rfl rfl rfl rfl rfl rfl ?_ | refine r_lit hT rfl rfl rfl rfl rfl rfl rfl rfl rfl rfl rfl rfl rfl ?_ | refine r_off0 rfl rfl rfl rfl ?_ | refine r_storeO hT rfl rfl rfl rfl rfl rfl rfl rfl rfl rfl rfl ?_) | (refine gi_seq ?_) | (refine gi_plain ?_) | (refine gi_skip ?_) | (refine gi_block ?_) | (refine gi_inBlock ?_) | (refine gi_exit rfl ?_) | (refine gi_cnd ?_; first | refine gi_true rfl ?_ | refine gi_false rfl ?_) | (refine gi_label ?_)))
    refine next (j, (o2, d2)) _ _ _ ⟨by simp only; omega, hI2⟩ (by simp only; omega) ⟨?_, rfl, rfl, trivial⟩ ⟨rfl, rfl, rfl, rfl, rfl, rfl, trivial⟩ ⟨rfl, rfl, trivial⟩
    show some (I (wr .i64 ((j : Int) - 1))) = _
    rw [wr_i64 (by omega) (by omega)]
  · have hi0 : i = 0 := by omega
    subst hi0
    (repeat (first | (refine r_end ?_) | (refine r_op ?_; first | refine r_pure hT rfl rfl rfl rfl rfl rfl ?_ | refine r_load hT rfl rfl rfl rfl rfl rfl rfl rfl rfl ?_ | refine r_box rfl rfl rfl rfl rfl rfl rfl rfl rfl ?_ | refine r_store hT rfl rfl rfl rfl rfl rfl rfl rfl rfl rfl ?_ | refine r_off rfl rfl rfl rfl rfl ?_ | refine r_alloc hT rfl rfl rfl rfl rfl rfl rfl rfl rfl ?_ | refine r_lit hT rfl rfl rfl rfl rfl rfl rfl rfl rfl rfl rfl rfl rfl ?_ | refine r_off0 rfl rfl rfl rfl ?_ | refine r_storeO hT rfl rfl rfl rfl rfl rfl rfl rfl rfl rfl rfl ?_) | (refine gi_seq ?_) | (refine gi_plain ?_) | (refine gi_skip ?_) | (refine gi_block ?_) | (refine gi_inBlock ?_) | (refine gi_exit rfl ?_) | (refine gi_cnd ?_; first | refine gi_true rfl ?_ | refine gi_false rfl ?_) | (refine gi_label ?_)))
    refine gi_finX hT Try.func81 rfl [0,1,2,3,4,5] [0,1] rfl rfl rfl rfl rfl rfl rfl rfl ?_
    exact ⟨rfl, _, _, rfl, hI⟩
end Go.Proofs.Ytmocggibcniggaa.Kt
namespace Go.Proofs.Ytmocggibcniggaa.Kt
open Go Kw Go.Proofs
set_option maxHeartbeats 4000000
set_option maxRecDepth 100000
/-! ### how far each Node is from a member: the law -/
def isW (w : List Int) (n : Nd) : Bool := decide (n.v.k = 1) && w.any (fun x => decide (x = n.v.i))
def isMb (ms : List Vt) (n : Nd) : Bool := ms.any (fun x => decide (x = n.v))
def cK (q n : Nd) : Int := if n.v.k = 1 ∧ q.v.k = 1 then 1 else 0
def cP (q : Nd) : Int := if q.v.k = 1 then 0 else 1
theorem cK_b (q n : Nd) : 0 ≤ cK q n ∧ cK q n ≤ 1 := by unfold cK; split <;> omega
theorem cP_b (q : Nd) : 0 ≤ cP q ∧ cP q ≤ 1 := by unfold cP; split <;> omega
theorem cKP_b (q n : Nd) : cK q n + cP q ≤ 1 := by
  unfold cK cP
  by_cases h : q.v.k = 1
  · rw [if_pos h]; split <;> omega
  · rw [if_neg h, if_neg (fun h' => h h'.2)]; omega
structure Val (t : List Nd) (w : List Int) (ms : List Vt) (o : List Int) (i : Nat) (n : Nd) (x : Int) : Prop where
  wi : isW w n = true → x = 0
  me : isW w n = false → isMb ms n = true → x = 1
  le : isW w n = false → isMb ms n = false → ∀ k m y, i < k → t[k]? = some m → m.p = i → o[k]? = some y → 0 ≤ y → 0 ≤ x ∧ x ≤ y + (cK n m + cP n)
  or : isW w n = false → isMb ms n = false → 0 ≤ x → ∃ k m y, i < k ∧ t[k]? = some m ∧ m.p = i ∧ o[k]? = some y ∧ 0 ≤ y ∧ x = y + (cK n m + cP n)
structure RInv (t : List Nd) (w : List Int) (ms : List Vt) (i : Nat) (o d : List Int) : Prop where
  lo : o.length = t.length
  ld : d.length = t.length
  rng : ∀ (k : Nat) x, i ≤ k → o[k]? = some x → -1 ≤ x ∧ x + k ≤ t.length
  at_ : ∀ k n x, i ≤ k → t[k]? = some n → o[k]? = some x → Val t w ms o k n x
  dlo : ∀ p x, p < i → d[p]? = some x → -1 ≤ x
  dle : ∀ (p : Nat) np x k m y, p < i → t[p]? = some np → d[p]? = some x → i ≤ k → t[k]? = some m → m.p = p → o[k]? = some y → 0 ≤ y → 0 ≤ x ∧ x ≤ y + cK np m
  dor : ∀ (p : Nat) np x, p < i → t[p]? = some np → d[p]? = some x → 0 ≤ x → ∃ k m y, i ≤ k ∧ t[k]? = some m ∧ m.p = p ∧ o[k]? = some y ∧ 0 ≤ y ∧ x = y + cK np m
theorem RInv.zero (t : List Nd) (w : List Int) (ms : List Vt) : RInv t w ms t.length (List.replicate t.length 0) (List.replicate t.length (-1)) where
  lo := by simp
  ld := by simp
  rng := fun k x hk hx => by have := (List.getElem?_eq_some_iff.1 hx).1; rw [List.length_replicate] at this; omega
  at_ := fun k n x hk hn _ => by have := (List.getElem?_eq_some_iff.1 hn).1; omega
  dlo := fun p x hp hx => by
    have := List.mem_of_getElem? hx
    rw [List.mem_replicate] at this
    omega
  dle := fun p np x k m y hp _ _ hk hm => by have := (List.getElem?_eq_some_iff.1 hm).1; omega
  dor := fun p np x hp _ hx h0 => by
    have := List.mem_of_getElem? hx
    rw [List.mem_replicate] at this
    omega
/-- What a Node's distance is, of what its kids told. -/
def valR (w : List Int) (ms : List Vt) (n : Nd) (e : Int) : Int := if isW w n = true then 0 else if isMb ms n = true then 1 else if n.v.k ≠ 1 ∧ 0 ≤ e then e + 1 else e
theorem getS {l : List Int} {i k : Nat} {v x : Int} (hi : i < l.length) (h : (l.set i v)[k]? = some x) : (k = i ∧ x = v) ∨ (k ≠ i ∧ l[k]? = some x) := by
  by_cases e : k = i
  · subst e
    rw [List.getElem?_set_self hi] at h
    exact .inl ⟨rfl, (Option.some.inj h).symm⟩
  · rw [List.getElem?_set_ne (fun h => e h.symm)] at h
    exact .inr ⟨e, h⟩
section
variable {t : List Nd} {w : List Int} {ms : List Vt} {i : Nat} {o d : List Int} {n : Nd} {e : Int}
theorem RInv.eup (h : RInv t w ms (i + 1) o d) (hn : t[i]? = some n) (he : d[i]? = some e) : -1 ≤ e ∧ e + cP n + i ≤ t.length := by
  have h1 := h.dlo i e (by omega) he
  have hl := (List.getElem?_eq_some_iff.1 hn).1
  refine ⟨h1, ?_⟩
  have hb := cP_b n
  by_cases h0 : 0 ≤ e
  · obtain ⟨k, m, y, hk, hm, hp, hy, hy0, rfl⟩ := h.dor i n e (by omega) hn he h0
    have h2 := (h.rng k y hk hy).2
    have := cKP_b n m
    omega
  · omega
theorem RInv.vb (h : RInv t w ms (i + 1) o d) (hn : t[i]? = some n) (he : d[i]? = some e) : -1 ≤ valR w ms n e ∧ valR w ms n e + i ≤ t.length := by
  obtain ⟨h1, h2⟩ := h.eup hn he
  have hl := (List.getElem?_eq_some_iff.1 hn).1
  have hb := cP_b n
  unfold valR
  split
  · omega
  split
  · omega
  split
  · rename_i h3
    have : cP n = 1 := if_neg h3.1
    omega
  · omega
theorem RInv.val (h : RInv t w ms (i + 1) o d) (hn : t[i]? = some n) (he : d[i]? = some e) : Val t w ms (o.set i (valR w ms n e)) i n (valR w ms n e) := by
  have hl := (List.getElem?_eq_some_iff.1 hn).1
  have hlo : i < o.length := by rw [h.lo]; exact hl
  have hd := h.dlo i e (by omega) he
  have key : isW w n = false → isMb ms n = false → valR w ms n e = if 0 ≤ e then e + cP n else e := fun h1 h2 => by
    unfold valR
    rw [if_neg (by rw [h1]; decide), if_neg (by rw [h2]; decide)]
    unfold cP
    by_cases hk : n.v.k = 1
    · rw [if_neg (fun hh => hh.1 hk), if_pos hk]; split <;> omega
    · rw [if_neg hk]
      by_cases h0 : 0 ≤ e
      · rw [if_pos ⟨hk, h0⟩, if_pos h0]
      · rw [if_neg (fun hh => h0 hh.2), if_neg h0]
  refine ⟨fun h1 => by unfold valR; rw [if_pos h1], fun h1 h2 => by unfold valR; rw [if_neg (by rw [h1]; decide), if_pos h2], fun h1 h2 k m y hk hm hp hy hy0 => ?_, fun h1 h2 hx => ?_⟩
  · rcases getS hlo hy with ⟨hk', _⟩ | ⟨_, hy⟩
    · omega
    obtain ⟨q1, q2⟩ := h.dle i n e k m y (by omega) hn he (by omega) hm hp hy hy0
    rw [key h1 h2, if_pos q1]
    have := cP_b n
    omega
  · rw [key h1 h2] at hx ⊢
    by_cases h0 : 0 ≤ e
    · obtain ⟨k, m, y, hk, hm, hp, hy, hy0, rfl⟩ := h.dor i n e (by omega) hn he h0
      refine ⟨k, m, y, by omega, hm, hp, by rw [List.getElem?_set_ne (by omega)]; exact hy, hy0, ?_⟩
      rw [if_pos h0]; omega
    · rw [if_neg h0] at hx; omega
theorem Val.keep {o' : List Int} {k : Nat} {x : Int} (hv : Val t w ms o k n x) (h : ∀ j, k < j → o'[j]? = o[j]?) : Val t w ms o' k n x :=
  ⟨hv.wi, hv.me, fun h1 h2 j m y hj hm hp hy hy0 => hv.le h1 h2 j m y hj hm hp (by rw [← h j hj]; exact hy) hy0, fun h1 h2 h0 => by
    obtain ⟨j, m, y, hj, hm, hp, hy, q⟩ := hv.or h1 h2 h0
    exact ⟨j, m, y, hj, hm, hp, by rw [h j hj]; exact hy, q⟩⟩
/-- A Node whose parent hears nothing. -/
theorem RInv.skip (h : RInv t w ms (i + 1) o d) (hn : t[i]? = some n) (he : d[i]? = some e) (hs : n.p < 0 ∨ i ≤ n.p ∨ valR w ms n e < 0) : RInv t w ms i (o.set i (valR w ms n e)) d := by
  have hl := (List.getElem?_eq_some_iff.1 hn).1
  have hlo : i < o.length := by rw [h.lo]; exact hl
  have hv := h.val hn he
  have hb := h.vb hn he
  refine ⟨by rw [List.length_set]; exact h.lo, h.ld, fun k x hk hx => ?_, fun k m x hk hm hx => ?_, fun p x hp => h.dlo p x (by omega), fun p np x k m y hp hnp hx hk hm hmp hy hy0 => ?_, fun p np x hp hnp hx h0 => ?_⟩
  · rcases getS hlo hx with ⟨rfl, rfl⟩ | ⟨hne, hx⟩
    · exact hb
    · exact h.rng k x (by omega) hx
  · rcases getS hlo hx with ⟨rfl, rfl⟩ | ⟨hne, hx⟩
    · rw [hn] at hm; cases hm; exact hv
    · exact (h.at_ k m x (by omega) hm hx).keep (fun j hj => List.getElem?_set_ne (by omega))
  · rcases getS hlo hy with ⟨rfl, rfl⟩ | ⟨hne, hy⟩
    · rw [hn] at hm; cases hm; omega
    · exact h.dle p np x k m y (by omega) hnp hx (by omega) hm hmp hy hy0
  · obtain ⟨k, m, y, hk, hm, hmp, hy, q⟩ := h.dor p np x (by omega) hnp hx h0
    exact ⟨k, m, y, by omega, hm, hmp, by rw [List.getElem?_set_ne (by omega)]; exact hy, q⟩
theorem nearI_le {a b : Int} (hb : 0 ≤ b) (ha : -1 ≤ a) : 0 ≤ nearI a b ∧ nearI a b ≤ b ∧ (0 ≤ a → nearI a b ≤ a) ∧ (nearI a b = b ∨ (0 ≤ a ∧ nearI a b = a)) := by
  unfold nearI
  split
  · omega
  · split
    · omega
    · split <;> omega
/-- A Node that tells its parent. -/
theorem RInv.tell (h : RInv t w ms (i + 1) o d) (hn : t[i]? = some n) (he : d[i]? = some e) {p : Nat} {q : Nd} {f : Int} (hp : n.p = p) (hpi : p < i) (hq : t[p]? = some q) (hf : d[p]? = some f) (h0 : 0 ≤ valR w ms n e) : RInv t w ms i (o.set i (valR w ms n e)) (d.set p (nearI f (valR w ms n e + cK q n))) := by
  have hl := (List.getElem?_eq_some_iff.1 hn).1
  have hlo : i < o.length := by rw [h.lo]; exact hl
  have hld : p < d.length := by rw [h.ld]; omega
  have hv := h.val hn he
  have hb := h.vb hn he
  have hc := cK_b q n
  have hf1 := h.dlo p f (by omega) hf
  obtain ⟨n1, n2, n3, n4⟩ := nearI_le (a := f) (b := valR w ms n e + cK q n) (by omega) hf1
  refine ⟨by rw [List.length_set]; exact h.lo, by rw [List.length_set]; exact h.ld, fun k x hk hx => ?_, fun k m x hk hm hx => ?_, fun p' x hp' hx => ?_, fun p' np x k m y hp' hnp hx hk hm hmp hy hy0 => ?_, fun p' np x hp' hnp hx hx0 => ?_⟩
  · rcases getS hlo hx with ⟨rfl, rfl⟩ | ⟨hne, hx⟩
    · exact hb
    · exact h.rng k x (by omega) hx
  · rcases getS hlo hx with ⟨rfl, rfl⟩ | ⟨hne, hx⟩
    · rw [hn] at hm; cases hm; exact hv
    · exact (h.at_ k m x (by omega) hm hx).keep (fun j hj => List.getElem?_set_ne (by omega))
  · rcases getS hld hx with ⟨rfl, rfl⟩ | ⟨hne, hx⟩
    · omega
    · exact h.dlo p' x (by omega) hx
  · rcases getS hlo hy with ⟨rfl, rfl⟩ | ⟨hne, hy⟩
    · rw [hn] at hm; cases hm
      have hpp : p' = p := by omega
      subst hpp
      rw [hq] at hnp; cases hnp
      rcases getS hld hx with ⟨_, rfl⟩ | ⟨hne, _⟩
      · exact ⟨n1, n2⟩
      · exact absurd rfl hne
    · rcases getS hld hx with ⟨rfl, rfl⟩ | ⟨hne', hx⟩
      · obtain ⟨q1, q2⟩ := h.dle p' np f k m y (by omega) hnp hf (by omega) hm hmp hy hy0
        have := n3 q1
        omega
      · exact h.dle p' np x k m y (by omega) hnp hx (by omega) hm hmp hy hy0
  · rcases getS hld hx with ⟨rfl, rfl⟩ | ⟨hne', hx⟩
    · rw [hq] at hnp; cases hnp
      rcases n4 with n4 | ⟨f0, n4⟩
      · exact ⟨i, n, valR w ms n e, Nat.le_refl _, hn, hp, List.getElem?_set_self hlo, h0, n4⟩
      · obtain ⟨k, m, y, hk, hm, hmp, hy, hy0, q⟩ := h.dor p' _ f (by omega) hq hf f0
        exact ⟨k, m, y, by omega, hm, hmp, by rw [List.getElem?_set_ne (by omega)]; exact hy, hy0, by rw [n4]; exact q⟩
    · obtain ⟨k, m, y, hk, hm, hmp, hy, q⟩ := h.dor p' np x (by omega) hnp hx hx0
      exact ⟨k, m, y, by omega, hm, hmp, by rw [List.getElem?_set_ne (by omega)]; exact hy, q⟩
end
/-- What Reach answers. -/
structure Rch (t : List Nd) (w : List Int) (ms : List Vt) (o : List Int) : Prop where
  lo : o.length = t.length
  rng : ∀ (k : Nat) x, o[k]? = some x → -1 ≤ x ∧ x + k ≤ t.length
  at_ : ∀ k n x, t[k]? = some n → o[k]? = some x → Val t w ms o k n x
theorem RInv.rch {t : List Nd} {w : List Int} {ms : List Vt} {o d : List Int} (h : RInv t w ms 0 o d) : Rch t w ms o :=
  ⟨h.lo, fun k x => h.rng k x (Nat.zero_le _), fun k n x => h.at_ k n x (Nat.zero_le _)⟩
end Go.Proofs.Ytmocggibcniggaa.Kt
