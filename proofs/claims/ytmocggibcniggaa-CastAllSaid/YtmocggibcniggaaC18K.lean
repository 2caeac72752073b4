/- Part of the proofs of this seat's statements: what the functions compute. No condition. -/
import Derived.Test.YtmocggibcniggaaC18J
set_option linter.unusedSimpArgs false
set_option linter.unusedVariables false
namespace Go.Proofs.Ytmocggibcniggaa.Kt
open Go Kw Go.Proofs
attribute [local irreducible] Kw.GI Kw.GR Kw.FnR Kw.FnX
set_option maxHeartbeats 8000000
set_option maxRecDepth 100000
def placeL : List Nd → Vt → Option Nat
  | [], _ => none
  | n :: l, v => if n.v = v then some 0 else (placeL l v).map (· + 1)
def placeI : Option Nat → Int
  | some i => i
  | none => -1
theorem placeL_at {v : Vt} : ∀ {t : List Nd} {j : Nat} {n : Nd}, (∀ i, i < j → ∀ m, t[i]? = some m → m.v ≠ v) → t[j]? = some n → n.v = v → placeL t v = some j
  | [], j, n, _, h, _ => by simp at h
  | x :: t, 0, n, _, h, hv => by
    simp at h; subst h
    unfold placeL; rw [if_pos hv]
  | x :: t, j + 1, n, hn, h, hv => by
    have := hn 0 (by omega) x rfl
    unfold placeL
    rw [if_neg this, placeL_at (t := t) (fun i hi m hm => hn (i + 1) (Nat.succ_lt_succ hi) m (by simpa using hm)) (by simpa using h) hv]
    rfl
theorem placeL_no {v : Vt} : ∀ {t : List Nd}, (∀ n ∈ t, n.v ≠ v) → placeL t v = none
  | [], _ => rfl
  | x :: t, h => by
    unfold placeL
    rw [if_neg (h x (List.mem_cons_self ..)), placeL_no (fun n hn => h n (List.mem_cons_of_mem _ hn))]
    rfl
theorem placeL_some {v : Vt} : ∀ {t : List Nd} {j : Nat}, placeL t v = some j → ∃ n, t[j]? = some n ∧ n.v = v
  | [], j, h => by cases h
  | x :: t, j, h => by
    unfold placeL at h
    split at h
    · rename_i hx
      cases h; exact ⟨x, rfl, hx⟩
    · cases ht : placeL t v with
      | none => rw [ht] at h; cases h
      | some i =>
        rw [ht] at h
        have : i + 1 = j := Option.some.inj h
        subst this
        obtain ⟨n, h1, h2⟩ := placeL_some ht
        exact ⟨n, by simpa using h1, h2⟩
theorem placeL_none {v : Vt} {t : List Nd} (h : placeL t v = none) : ∀ n ∈ t, n.v ≠ v := by
  induction t with
  | nil => intro n hn; cases hn
  | cons x t ih =>
    unfold placeL at h
    split at h
    · cases h
    · rename_i hx
      intro n hn
      cases ht : placeL t v with
      | none =>
        rcases List.mem_cons.1 hn with rfl | hn
        · exact hx
        · exact ih ht n hn
      | some i => rw [ht] at h; cases h
theorem placeL_lt {v : Vt} {t : List Nd} {j : Nat} (h : placeL t v = some j) : j < t.length := by
  obtain ⟨n, h1, _⟩ := placeL_some h
  exact (List.getElem?_eq_some_iff.1 h1).1
abbrev rsNd (l : List Nd) : AV := .r (.rs 5 (l.map Nd.row))
theorem Place_ok (t : List Nd) (v : Vt) (hl : t.length < 1000000) : FnR Try.prog 38 [rsNd t, v.av] (RI (placeI (placeL t v))) := by
  refine fnR_intro (T := TT) (n := 20) Try.func38 rfl rfl rfl (fun w Z => ?_)
  (repeat (first | refine r_end ?_ | (refine r_op ?_; first | refine r_pure hT rfl rfl rfl rfl rfl rfl ?_ | refine r_box rfl rfl rfl rfl rfl rfl rfl rfl rfl ?_) | refine gi_seq ?_ | refine gi_plain ?_ | refine gi_block ?_))
  refine gi_loop (σ := Nat) (fun j => [(5, I j), (3, .box 0 0), (0, rsNd t)]) (fun _ => [hV v]) (fun _ => []) (fun j => j ≤ t.length ∧ ∀ i, i < j → ∀ m, t[i]? = some m → m.v ≠ v) (fun j => t.length - j) 0 ⟨Nat.zero_le _, fun i h => absurd h (Nat.not_lt_zero _)⟩ ⟨rfl, rfl, rfl, trivial⟩ ⟨rfl, trivial⟩ trivial (fun _ => rfl) (fun j hj next => ?_)
  obtain ⟨hj, hn⟩ := hj
  (repeat (first | refine r_end ?_ | (refine r_op ?_; refine r_pure hT rfl rfl rfl rfl rfl rfl ?_) | refine gi_seq ?_ | refine gi_plain ?_))
  refine gi_lt (q := ((t.map Nd.row).length : Int)) rfl (fun h3 => ?_) (fun h3 => ?_)
  · rw [List.length_map] at h3
    have hjl : j < t.length := by omega
    obtain ⟨x, hx⟩ : ∃ x, t[j]? = some x := ⟨_, List.getElem?_eq_getElem hjl⟩
    (repeat (first | refine gi_seq ?_ | refine gi_skip ?_ | refine gi_block ?_))
    refine gi_drawM [] [(0, .p), (1, .p), (2, .p), (3, .p), (4, .t), (5, .t), (6, .p)] [0, 0, 3, 4, 8, 0, 48] [0, 0, 3, 4, 8, 0, 48] hm rfl (by kernel_rfl) (fun w1 K => ?_)
    (repeat ((refine r_op ?_; refine r_pure hT rfl rfl rfl rfl rfl rfl ?_)))
    refine r_idx (row := x.row) hT rfl rfl rfl rfl rfl rfl rfl rfl rfl rfl rfl rfl (by omega) (by simp [hx]) ?_
    (repeat ((refine r_op ?_; first | refine r_pure hT rfl rfl rfl rfl rfl rfl ?_ | refine r_load hT rfl rfl rfl rfl rfl rfl rfl rfl rfl ?_)))
    refine r_eqT _ rfl rfl rfl rfl rfl rfl rfl rfl rfl y_flat_Vt ?_
    (repeat (refine r_end ?_))
    refine gi_cond rfl (fun c4 => ?_) (fun c4 => ?_)
    · rw [veq_eq x.v v] at c4
      have hp := placeL_at hn hx (of_decide_eq_true c4)
      (repeat (first | refine r_end ?_ | (refine r_op ?_; refine r_pure hT rfl rfl rfl rfl rfl rfl ?_) | refine gi_seq ?_ | refine gi_plain ?_))
      refine gi_retW hT Try.func38 rfl rfl [] rfl rfl rfl rfl ?_
      rw [hp]
      exact ⟨rfl, rfl⟩
    · rw [veq_eq x.v v] at c4
      have hne := of_decide_eq_false c4
      (repeat (first | refine r_end ?_ | (refine r_op ?_; refine r_pure hT rfl rfl rfl rfl rfl rfl ?_) | refine gi_plain ?_ | refine gi_skip ?_ | refine gi_inBlock ?_))
      refine next (j + 1) _ _ _ ⟨hjl, fun i hi m hm => ?_⟩ (by omega) ⟨?_, rfl, rfl, trivial⟩ ⟨rfl, trivial⟩ trivial
      · rcases Nat.lt_succ_iff_lt_or_eq.1 hi with hi | rfl
        · exact hn i hi m hm
        · rw [hx] at hm; cases hm; exact hne
      · show some (I (wr .i64 ((j : Int) + 1))) = _
        rw [wr_i64 (by omega) (by omega)]
        simp
  · rw [List.length_map] at h3
    have hp : placeL t v = none := placeL_no (fun n hm => by
      obtain ⟨i, hi⟩ := List.mem_iff_getElem?.1 hm
      exact hn i (by have := (List.getElem?_eq_some_iff.1 hi).1; omega) n hi)
    (repeat (first | refine r_end ?_ | (refine r_op ?_; refine r_pure hT rfl rfl rfl rfl rfl rfl ?_) | refine gi_seq ?_ | refine gi_plain ?_ | refine gi_exit rfl ?_))
    refine gi_retW hT Try.func38 rfl rfl [] rfl rfl rfl rfl ?_
    rw [hp]
    exact ⟨rfl, rfl⟩
def firstB (a b : Vt) : Bool := match notB (eqB a.k b.k) with
  | true => eqB a.k 2
  | false => ltB a.i b.i
theorem first_ok (a b : Vt) : FnR Try.prog 96 [a.av, b.av] (RB (firstB a b)) := by
  refine fnR_intro (T := TT) (n := 18) Try.func96 rfl rfl rfl (fun w Z => ?_)
  (repeat (first | refine r_end ?_ | (refine r_op ?_; first | refine r_pure hT rfl rfl rfl rfl rfl rfl ?_ | refine r_load hT rfl rfl rfl rfl rfl rfl rfl rfl rfl ?_ | refine r_box rfl rfl rfl rfl rfl rfl rfl rfl rfl ?_) | refine gi_seq ?_ | refine gi_plain ?_))
  refine gi_cond rfl (fun c => ?_) (fun c => ?_)
  · (repeat (first | refine r_end ?_ | (refine r_op ?_; first | refine r_pure hT rfl rfl rfl rfl rfl rfl ?_ | refine r_load hT rfl rfl rfl rfl rfl rfl rfl rfl rfl ?_) | refine gi_seq ?_ | refine gi_plain ?_))
    refine gi_retW hT Try.func96 rfl rfl [] rfl rfl rfl rfl ?_
    exact ⟨by unfold firstB; rw [c], rfl⟩
  · (repeat (first | refine r_end ?_ | (refine r_op ?_; first | refine r_pure hT rfl rfl rfl rfl rfl rfl ?_ | refine r_load hT rfl rfl rfl rfl rfl rfl rfl rfl rfl ?_) | refine gi_seq ?_ | refine gi_plain ?_ | refine gi_skip ?_))
    refine gi_retW hT Try.func96 rfl rfl [] rfl rfl rfl rfl ?_
    exact ⟨by unfold firstB; rw [c], rfl⟩
def zNd : Nd := ⟨⟨0, 0⟩, 0, 0, 0⟩
def soonF (va vb : Vt) (a b : Nd) : Bool := match notB (eqB a.c b.c) with
  | true => ltB a.c b.c
  | false => match notB (decide (a.v = b.v)) with
    | true => firstB a.v b.v
    | false => match notB (eqB a.p b.p) with
      | true => firstB va vb
      | false => false
theorem sooner_ok (t : List Nd) (a b : Nd) (hl : t.length < 1000000) (na nb : Nd) (pa pb : Nat) (ha : a.p = pa) (hb : b.p = pb) (h1 : t[pa]? = some na) (h2 : t[pb]? = some nb) : FnR Try.prog 80 [rsNd t, a.av, b.av] (RB (soonF na.v nb.v a b)) := by
  have hal := (List.getElem?_eq_some_iff.1 h1).1
  have hbl := (List.getElem?_eq_some_iff.1 h2).1
  refine fnR_intro (T := TT) (n := 45) Try.func80 rfl rfl rfl (fun w Z => ?_)
  (repeat (first | refine r_end ?_ | (refine r_op ?_; first | refine r_pure hT rfl rfl rfl rfl rfl rfl ?_ | refine r_load hT rfl rfl rfl rfl rfl rfl rfl rfl rfl ?_ | refine r_box rfl rfl rfl rfl rfl rfl rfl rfl rfl ?_) | refine gi_seq ?_ | refine gi_plain ?_))
  refine gi_cond rfl (fun c => ?_) (fun c => ?_)
  · (repeat (first | refine r_end ?_ | (refine r_op ?_; first | refine r_pure hT rfl rfl rfl rfl rfl rfl ?_ | refine r_load hT rfl rfl rfl rfl rfl rfl rfl rfl rfl ?_) | refine gi_seq ?_ | refine gi_plain ?_))
    refine gi_retW hT Try.func80 rfl rfl [] rfl rfl rfl rfl ?_
    exact ⟨by unfold soonF; rw [c], rfl⟩
  (repeat (first | (refine r_op ?_; first | refine r_pure hT rfl rfl rfl rfl rfl rfl ?_ | refine r_load hT rfl rfl rfl rfl rfl rfl rfl rfl rfl ?_) | refine gi_seq ?_ | refine gi_plain ?_ | refine gi_skip ?_))
  refine r_neT _ rfl rfl rfl rfl rfl rfl rfl rfl rfl y_flat_Vt ?_
  (repeat (refine r_end ?_))
  refine gi_cond rfl (fun c2 => ?_) (fun c2 => ?_)
  · rw [veq_eq a.v b.v] at c2
    (repeat (first | (refine r_op ?_; first | refine r_pure hT rfl rfl rfl rfl rfl rfl ?_ | refine r_load hT rfl rfl rfl rfl rfl rfl rfl rfl rfl ?_) | refine gi_seq ?_ | refine gi_plain ?_))
    refine r_call (first_ok a.v b.v) rfl rfl rfl rfl rfl rfl rfl rfl Try.func96 rfl rfl rfl pB ?_
    rintro r S1 ⟨rfl, rfl⟩
    (repeat (first | refine r_end ?_ | (refine r_op ?_; refine r_pure hT rfl rfl rfl rfl rfl rfl ?_)))
    refine gi_retW hT Try.func80 rfl rfl [] rfl rfl rfl rfl ?_
    exact ⟨by unfold soonF; rw [c, c2], rfl⟩
  rw [veq_eq a.v b.v] at c2
  (repeat (first | refine r_end ?_ | (refine r_op ?_; first | refine r_pure hT rfl rfl rfl rfl rfl rfl ?_ | refine r_load hT rfl rfl rfl rfl rfl rfl rfl rfl rfl ?_) | refine gi_seq ?_ | refine gi_plain ?_ | refine gi_skip ?_))
  refine gi_cond rfl (fun c3 => ?_) (fun c3 => ?_)
  · (repeat (refine gi_seq ?_))
    refine gi_drawM [] [(0, .p), (1, .p), (6, .p), (7, .p), (2, .t), (3, .p), (4, .p), (5, .t), (8, .t), (9, .p), (10, .p), (11, .t), (12, .o), (13, .p)] [0, 0, 2, 5, 8, 16, 0, 0, 128, 320, 512, 1024, 2080, 8191] [0, 0, 2, 5, 8, 16, 0, 0, 128, 320, 512, 1024, 2080, 4096] hm rfl (by kernel_rfl) (fun w1 K => ?_)
    (repeat ((refine r_op ?_; first | refine r_pure hT rfl rfl rfl rfl rfl rfl ?_ | refine r_load hT rfl rfl rfl rfl rfl rfl rfl rfl rfl ?_)))
    refine r_turn (d := 34) (y := I (pa : Int)) rfl (by rw [← ha]) ?_
    refine r_idx (row := na.row) hT rfl rfl rfl rfl rfl rfl rfl rfl rfl rfl rfl rfl (by omega) (by simp [h1]) ?_
    (repeat ((refine r_op ?_; first | refine r_pure hT rfl rfl rfl rfl rfl rfl ?_ | refine r_load hT rfl rfl rfl rfl rfl rfl rfl rfl rfl ?_)))
    refine r_turn (d := 40) (y := I (pb : Int)) rfl (by rw [← hb]) ?_
    refine r_idx (row := nb.row) hT rfl rfl rfl rfl rfl rfl rfl rfl rfl rfl rfl rfl (by omega) (by simp [h2]) ?_
    (repeat ((refine r_op ?_; first | refine r_pure hT rfl rfl rfl rfl rfl rfl ?_ | refine r_load hT rfl rfl rfl rfl rfl rfl rfl rfl rfl ?_)))
    refine r_call (first_ok na.v nb.v) rfl rfl rfl rfl rfl rfl rfl rfl Try.func96 rfl rfl rfl pB ?_
    rintro r S1 ⟨rfl, rfl⟩
    (repeat (first | refine r_end ?_ | (refine r_op ?_; refine r_pure hT rfl rfl rfl rfl rfl rfl ?_)))
    refine gi_retW hT Try.func80 rfl rfl [] rfl rfl rfl rfl ?_
    exact ⟨by unfold soonF; rw [c, c2, c3], rfl⟩
  · (repeat (first | refine r_end ?_ | (refine r_op ?_; refine r_pure hT rfl rfl rfl rfl rfl rfl ?_) | refine gi_seq ?_ | refine gi_plain ?_ | refine gi_skip ?_))
    refine gi_retW hT Try.func80 rfl rfl [] rfl rfl rfl rfl ?_
    exact ⟨by unfold soonF; rw [c, c2, c3], rfl⟩
end Go.Proofs.Ytmocggibcniggaa.Kt
