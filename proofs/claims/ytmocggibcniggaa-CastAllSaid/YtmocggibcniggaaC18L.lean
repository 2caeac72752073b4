/- Part of the proofs of this seat's statements: what the functions compute. No condition. -/
import Derived.Test.YtmocggibcniggaaC18K
set_option linter.unusedSimpArgs false
set_option linter.unusedVariables false
namespace Go.Proofs.Ytmocggibcniggaa.Kt
open Go Kw Go.Proofs
attribute [local irreducible] Kw.GI Kw.GR Kw.FnR Kw.FnX
set_option maxHeartbeats 8000000
set_option maxRecDepth 100000
def candL (t : List Nd) (e : Eg) : Option Nd := match placeL t e.f, placeL t e.t with
  | some p, none => some ⟨e.t, p, wr .i64 ((t.getD p zNd).c + e.c), e.d⟩
  | _, _ => none
def soon (t : List Nd) (a b : Nd) : Bool := soonF (t.getD a.p.toNat zNd).v (t.getD b.p.toNat zNd).v a b
def stepT (bt : List Nd → Nd → Nd → Bool) (t : List Nd) (m : Option Nd) (e : Eg) : Option Nd := match candL t e with
  | none => m
  | some n => match m with
    | none => some n
    | some b => match bt t n b with
      | true => some n
      | false => some b
def bestL (bt : List Nd → Nd → Nd → Bool) (t : List Nd) (es : List Eg) : Option Nd := es.foldl (stepT bt t) none
def treeN (bt : List Nd → Nd → Nd → Bool) (es : List Eg) : Nat → List Nd → List Nd
  | 0, t => t
  | k + 1, t => match bestL bt t es with
    | none => t
    | some n => treeN bt es k (t ++ [n])
theorem treeN_none {bt : List Nd → Nd → Nd → Bool} {es : List Eg} {k : Nat} {t : List Nd} (h : bestL bt t es = none) : treeN bt es (k + 1) t = t := by rw [treeN, h]
theorem treeN_some {bt : List Nd → Nd → Nd → Bool} {es : List Eg} {k : Nat} {t : List Nd} {n : Nd} (h : bestL bt t es = some n) : treeN bt es (k + 1) t = treeN bt es k (t ++ [n]) := by rw [treeN, h]
def rootN (v : Vt) : Nd := ⟨v, -1, 0, 0⟩
def refTree (m : Mp) (root : Vt) : List Nd := match m.vs.any (fun x => decide (x = root)) with
  | true => treeN soon m.es m.vs.length [rootN root]
  | false => []
def GoodN (t : List Nd) (n : Nd) : Prop := ∃ p : Nat, n.p = p ∧ p < t.length
theorem cand_good {t : List Nd} {e : Eg} {n : Nd} (h : candL t e = some n) : GoodN t n := by
  unfold candL at h
  split at h
  · rename_i p hp _
    cases h
    exact ⟨p, rfl, placeL_lt hp⟩
  · cases h
theorem step_good {bt : List Nd → Nd → Nd → Bool} {t : List Nd} {m : Option Nd} {e : Eg} (hm : ∀ b, m = some b → GoodN t b) : ∀ b, stepT bt t m e = some b → GoodN t b := by
  intro b h
  unfold stepT at h
  split at h
  · exact hm b h
  · rename_i n hn
    split at h
    · cases h; exact cand_good hn
    · rename_i b'
      split at h
      · cases h; exact cand_good hn
      · exact hm b h
theorem best_good {bt : List Nd → Nd → Nd → Bool} {t : List Nd} : ∀ {es : List Eg} {m : Option Nd}, (∀ b, m = some b → GoodN t b) → ∀ b, es.foldl (stepT bt t) m = some b → GoodN t b
  | [], m, hm, b, h => hm b h
  | e :: es, m, hm, b, h => best_good (es := es) (step_good (e := e) hm) b h
abbrev avMf (m : Mp) : AV := .agg [.r (.fs 2 (m.vs.map Vt.row)), .r (.fs 6 (m.es.map Eg.row)), .r (.fs 4 (m.sb.map Sb.row)), .r (.fs 4 (m.sn.map Sn.row)), .r (.fs 1 (m.wl.map nRow))]
abbrev hMf (m : Mp) : Option (TypeId × List AV) := some (31, [.r (.fs 2 (m.vs.map Vt.row)), .r (.fs 6 (m.es.map Eg.row)), .r (.fs 4 (m.sb.map Sb.row)), .r (.fs 4 (m.sn.map Sn.row)), .r (.fs 1 (m.wl.map nRow))])
abbrev hEg (e : Eg) : Option (TypeId × List AV) := some (69, [I e.f.k, I e.f.i, I e.t.k, I e.t.i, I e.c, I e.d])
abbrev hNd (n : Nd) : Option (TypeId × List AV) := some (58, [I n.v.k, I n.v.i, I n.p, I n.c, I n.d])
def noN : Nd := ⟨⟨0, 0⟩, -1, 0, 0⟩
theorem any_take {α : Type} (p : α → Bool) {l : List α} {j : Nat} {x : α} (h : l[j]? = some x) : (l.take (j + 1)).any p = ((l.take j).any p || p x) := by
  rw [take_snoc h, List.any_append]; simp
theorem eNd_ap (a b : List Nd) : eNd (a ++ b) = some (⟨58, 5, a.map Nd.row ++ b.map Nd.row, false⟩ : SE) := by rw [eNd, List.map_append]
theorem placeI_lt (o : Option Nat) : ltB (placeI o) 0 = !o.isSome := by
  rw [ltB_eq]
  cases o with
  | none => rfl
  | some i => exact decide_eq_false (by show ¬ ((i : Nat) : Int) < 0; omega)
theorem placeI_ge (o : Option Nat) : leB 0 (placeI o) = o.isSome := by
  rw [leB_eq]
  cases o with
  | none => rfl
  | some i => exact decide_eq_true (by show (0 : Int) ≤ ((i : Nat) : Int); omega)
theorem stLL_Nd : ∀ (l : List Nd), stLL (l.map Nd.row) = true
  | [] => rfl
  | c :: l => by
    show (stL (Nd.row c) && stLL (l.map Nd.row)) = true
    rw [stLL_Nd l]; rfl
theorem pNd {l : List Nd} : ∀ r H1 S1, RV1 (eNd l) r H1 S1 → stA r = true ∧ StH H1 ∧ StS S1 := by
  rintro r H S ⟨rfl, rfl, rfl⟩
  refine ⟨rfl, StH.nil, fun e he s hs => ?_⟩
  rw [List.mem_singleton.1 he] at hs
  cases hs
  exact stLL_Nd l
theorem rTree_ok (m : Mp) (root : Vt) (hv : m.vs.length ≤ 10000) (he : m.es.length ≤ 10000000) : FnX Try.prog 50 [avMf m, root.av] [] [] (RV1 (eNd (refTree m root))) := by
  refine fnX_intro (T := TT) (n := 99) Try.func50 rfl rfl rfl (fun w X Z Y B => ?_)
  (repeat (first | refine r_end ?_ | (refine r_op ?_; first | refine r_pure hT rfl rfl rfl rfl rfl rfl ?_ | refine r_box rfl rfl rfl rfl rfl rfl rfl rfl rfl ?_) | refine gi_seq ?_ | refine gi_plain ?_ | refine gi_block ?_))
  apply gi_cut (σ := Unit) (fun _ => [(5, Bo (m.vs.any (fun x => decide (x = root)))), (3, .box 1 0), (2, .box 0 0), (4, nilA)]) (fun _ => [hMf m, hV root]) (fun _ => []) (fun _ => True) (fun _ => rfl)
  case first =>
    intro fin
    refine gi_loop (σ := Nat) (fun j => [(6, I j), (5, Bo ((m.vs.take j).any (fun x => decide (x = root)))), (3, .box 1 0), (2, .box 0 0), (4, nilA)]) (fun _ => [hMf m, hV root]) (fun _ => []) (fun j => j ≤ m.vs.length) (fun j => m.vs.length - j) 0 (Nat.zero_le _) ⟨rfl, rfl, rfl, rfl, rfl, trivial⟩ ⟨rfl, rfl, trivial⟩ trivial (fun _ => rfl) (fun j hj next => ?_)
    have hj : j ≤ m.vs.length := hj
    (repeat (first | refine r_end ?_ | (refine r_op ?_; first | refine r_pure hT rfl rfl rfl rfl rfl rfl ?_ | refine r_load hT rfl rfl rfl rfl rfl rfl rfl rfl rfl ?_) | refine gi_seq ?_ | refine gi_plain ?_))
    refine gi_lt (q := ((m.vs.map Vt.row).length : Int)) rfl (fun h3 => ?_) (fun h3 => ?_)
    · rw [List.length_map] at h3
      have hjl : j < m.vs.length := by omega
      obtain ⟨x, hx⟩ : ∃ x, m.vs[j]? = some x := ⟨_, List.getElem?_eq_getElem hjl⟩
      have hat := any_take (fun x => decide (x = root)) hx
      have nx : ∀ b, b = ((m.vs.take j).any (fun x => decide (x = root)) || decide (x = root)) → ∀ F1 H1 S1, SubF [(6, I (wr .i64 ((j : Int) + 1))), (5, Bo b), (3, .box 1 0), (2, .box 0 0), (4, nilA)] F1 → SubH [hMf m, hV root] H1 → SubS [] S1 → GI _ _ F1 H1 S1 := fun b hb F1 H1 S1 hF hH hS => by
        refine next (j + 1) F1 H1 S1 hjl (by omega) ?_ hH hS
        rw [hat, ← hb]
        rw [wr_i64 (by omega) (by omega)] at hF
        simpa using hF
      (repeat (first | refine gi_seq ?_ | refine gi_skip ?_ | refine gi_block ?_))
      refine gi_drawM [] [(0, .p), (1, .p), (2, .p), (4, .p), (3, .t), (5, .p), (6, .t), (7, .t), (8, .p), (9, .p), (10, .p)] [0, 1, 2, 6, 2, 26, 34, 2, 194, 258, 1023] [0, 1, 2, 6, 2, 26, 34, 2, 194, 258, 513] hm rfl (by kernel_rfl) (fun w1 K => ?_)
      (repeat ((refine r_op ?_; refine r_pure hT rfl rfl rfl rfl rfl rfl ?_)))
      refine r_case (d := 21) rfl (fun c1 => ?_) (fun c1 => ?_)
      · (repeat (first | refine r_end ?_ | (refine r_op ?_; first | refine r_pure hT rfl rfl rfl rfl rfl rfl ?_ | refine r_off rfl rfl rfl rfl rfl ?_) | refine gi_plain ?_ | refine gi_inBlock ?_))
        exact nx true (by rw [c1]; rfl) _ _ _ ⟨rfl, rfl, rfl, rfl, rfl, trivial⟩ ⟨rfl, rfl, trivial⟩ trivial
      · (repeat ((refine r_op ?_; first | refine r_pure hT rfl rfl rfl rfl rfl rfl ?_ | refine r_load hT rfl rfl rfl rfl rfl rfl rfl rfl rfl ?_)))
        refine r_thaw 23 rfl ?_
        refine r_idx (row := x.row) hT rfl rfl rfl rfl rfl rfl rfl rfl rfl rfl rfl rfl (by omega) (by simp [hx]) ?_
        (repeat ((refine r_op ?_; refine r_load hT rfl rfl rfl rfl rfl rfl rfl rfl rfl ?_)))
        refine r_eqT _ rfl rfl rfl rfl rfl rfl rfl rfl rfl y_flat_Vt ?_
        (repeat (first | refine r_end ?_ | (refine r_op ?_; refine r_pure hT rfl rfl rfl rfl rfl rfl ?_) | refine gi_plain ?_ | refine gi_inBlock ?_))
        exact nx _ (by rw [c1, Bool.false_or]; exact veq_eq x root) _ _ _ ⟨rfl, rfl, rfl, rfl, rfl, trivial⟩ ⟨rfl, rfl, trivial⟩ trivial
    · rw [List.length_map] at h3
      have hjl : j = m.vs.length := by omega
      subst hjl
      rw [List.take_length]
      (repeat (first | refine gi_seq ?_ | refine gi_exit rfl ?_))
      exact fin () _ _ _ trivial ⟨rfl, rfl, rfl, rfl, trivial⟩ ⟨rfl, rfl, trivial⟩ trivial
  case after =>
    intro _ _
    (repeat (first | refine r_end ?_ | (refine r_op ?_; refine r_pure hT rfl rfl rfl rfl rfl rfl ?_) | refine gi_plain ?_))
    refine gi_cond rfl (fun c0 => ?_) (fun c0 => ?_)
    · rw [notB_eq, Bool.not_eq_true'] at c0
      have hrt : refTree m root = [] := by unfold refTree; rw [c0]
      (repeat (first | refine r_end ?_ | (refine r_op ?_; refine r_pure hT rfl rfl rfl rfl rfl rfl ?_) | refine gi_seq ?_ | refine gi_plain ?_))
      refine gi_adopt (e := 58) (sz := 5) 4 rfl ?_
      refine gi_retX hT Try.func50 rfl [] [0] rfl rfl rfl rfl rfl rfl rfl rfl ?_
      exact ⟨rfl, rfl, by rw [hrt]; rfl⟩
    rw [notB_eq, Bool.not_eq_false'] at c0
    have hrt : refTree m root = treeN soon m.es m.vs.length [rootN root] := by unfold refTree; rw [c0]
    (repeat (first | refine r_end ?_ | (refine r_op ?_; first | refine r_pure hT rfl rfl rfl rfl rfl rfl ?_ | refine r_load hT rfl rfl rfl rfl rfl rfl rfl rfl rfl ?_ | refine r_lit hT rfl rfl rfl rfl rfl rfl rfl rfl rfl rfl rfl rfl rfl ?_) | refine gi_seq ?_ | refine gi_plain ?_ | refine gi_skip ?_ | refine gi_block ?_))
    refine gi_loop (σ := Nat × List Nd) (fun _ => [(7, .sl 0), (3, .box 1 0), (2, .box 0 0)]) (fun _ => [hMf m, hV root]) (fun s => [eNd s.2]) (fun s => treeN soon m.es s.1 s.2 = refTree m root ∧ s.2.length + s.1 = m.vs.length + 1) (fun s => s.1) (m.vs.length, [rootN root]) ⟨hrt.symm, by simp only [List.length_cons, List.length_nil]; omega⟩ ⟨rfl, rfl, rfl, trivial⟩ ⟨rfl, rfl, trivial⟩ ⟨rfl, trivial⟩ (fun _ => rfl) (fun s hs next => ?_)
    obtain ⟨k, t⟩ := s
    obtain ⟨ht, hk⟩ := hs
    simp only at ht hk
    have htl : t.length < 1000000 := by omega
    (repeat (first | refine r_end ?_ | (refine r_op ?_; first | refine r_pure hT rfl rfl rfl rfl rfl rfl ?_ | refine r_load hT rfl rfl rfl rfl rfl rfl rfl rfl rfl ?_) | refine gi_seq ?_ | refine gi_plain ?_))
    refine gi_le (p := ((t.map Nd.row).length : Int)) (q := ((m.vs.map Vt.row).length : Int)) rfl (fun h3 => ?_) (fun h3 => ?_)
    · rw [List.length_map, List.length_map] at h3
      obtain ⟨k', rfl⟩ : ∃ k', k = k' + 1 := ⟨k - 1, by omega⟩
      (repeat (first | refine r_end ?_ | (refine r_op ?_; first | refine r_pure hT rfl rfl rfl rfl rfl rfl ?_ | refine r_store hT rfl rfl rfl rfl rfl rfl rfl rfl rfl rfl ?_ | refine r_alloc hT rfl rfl rfl rfl rfl rfl rfl rfl rfl ?_) | refine gi_seq ?_ | refine gi_plain ?_ | refine gi_skip ?_ | refine gi_block ?_))
      apply gi_cut (σ := Unit) (fun _ => [(8, .box 2 0), (7, .sl 0), (3, .box 1 0), (2, .box 0 0)]) (fun _ => [hMf m, hV root, hNd ((bestL soon t m.es).getD noN)]) (fun _ => [eNd t]) (fun _ => True) (fun _ => rfl)
      case first =>
        intro fin
        refine gi_loop (σ := Nat) (fun j => [(9, I j), (8, .box 2 0), (7, .sl 0), (3, .box 1 0), (2, .box 0 0)]) (fun j => [hMf m, hV root, hNd ((bestL soon t (m.es.take j)).getD noN)]) (fun _ => [eNd t]) (fun j => j ≤ m.es.length) (fun j => m.es.length - j) 0 (Nat.zero_le _) ⟨rfl, rfl, rfl, rfl, rfl, trivial⟩ ⟨rfl, rfl, rfl, trivial⟩ ⟨rfl, trivial⟩ (fun _ => rfl) (fun j hj next2 => ?_)
        have hj : j ≤ m.es.length := hj
        (repeat (first | refine r_end ?_ | (refine r_op ?_; first | refine r_pure hT rfl rfl rfl rfl rfl rfl ?_ | refine r_load hT rfl rfl rfl rfl rfl rfl rfl rfl rfl ?_) | refine gi_seq ?_ | refine gi_plain ?_))
        refine gi_lt (q := ((m.es.map Eg.row).length : Int)) rfl (fun h5 => ?_) (fun h5 => ?_)
        · rw [List.length_map] at h5
          have hjl : j < m.es.length := by omega
          obtain ⟨e, hee⟩ : ∃ e, m.es[j]? = some e := ⟨_, List.getElem?_eq_getElem hjl⟩
          have hft : bestL soon t (m.es.take (j + 1)) = stepT soon t (bestL soon t (m.es.take j)) e := fold_take (stepT soon t) none hee
          have hgood : ∀ b, bestL soon t (m.es.take j) = some b → GoodN t b := fun b h => best_good (es := m.es.take j) (fun b h => by cases h) b h
          obtain ⟨M, hM⟩ : ∃ M, M = bestL soon t (m.es.take j) := ⟨_, rfl⟩
          rw [← hM] at hft hgood
          rw [← hM]
          have nx : ∀ M', M' = stepT soon t M e → ∀ F1 H1 S1, SubF [(9, I (wr .i64 ((j : Int) + 1))), (8, .box 2 0), (7, .sl 0), (3, .box 1 0), (2, .box 0 0)] F1 → SubH [hMf m, hV root, hNd (M'.getD noN)] H1 → SubS [eNd t] S1 → GI _ _ F1 H1 S1 := fun M' h F1 H1 S1 hF hH hS => by
            refine next2 (j + 1) F1 H1 S1 hjl (by omega) ?_ (by rw [hft, ← h]; exact hH) hS
            rw [wr_i64 (by omega) (by omega)] at hF
            simpa using hF
          (repeat (first | (refine r_op ?_; first | refine r_pure hT rfl rfl rfl rfl rfl rfl ?_ | refine r_load hT rfl rfl rfl rfl rfl rfl rfl rfl rfl ?_) | refine gi_seq ?_ | refine gi_plain ?_ | refine gi_skip ?_ | refine gi_block ?_))
          refine r_thaw 50 rfl ?_
          refine r_idx (row := e.row) hT rfl rfl rfl rfl rfl rfl rfl rfl rfl rfl rfl rfl (by omega) (by simp [hee]) ?_
          (repeat (first | refine r_end ?_ | (refine r_op ?_; first | refine r_pure hT rfl rfl rfl rfl rfl rfl ?_ | refine r_load hT rfl rfl rfl rfl rfl rfl rfl rfl rfl ?_ | refine r_store hT rfl rfl rfl rfl rfl rfl rfl rfl rfl rfl ?_ | refine r_alloc hT rfl rfl rfl rfl rfl rfl rfl rfl rfl ?_) | refine gi_seq ?_ | refine gi_plain ?_))
          refine r_call (Place_ok t e.f htl) rfl rfl rfl rfl rfl rfl rfl rfl Try.func38 rfl rfl rfl pI ?_
          rintro r S1 ⟨rfl, rfl⟩
          (repeat (first | refine r_end ?_ | (refine r_op ?_; refine r_pure hT rfl rfl rfl rfl rfl rfl ?_) | refine gi_seq ?_ | refine gi_plain ?_))
          refine r_case (d := 60) rfl (fun c1 => ?_) (fun c1 => ?_)
          · rw [placeI_lt] at c1
            have hst : stepT soon t M e = M := by
              unfold stepT candL
              cases hp : placeL t e.f with
              | none => rfl
              | some p => rw [hp] at c1; cases c1
            (repeat (first | refine r_end ?_ | (refine r_op ?_; first | refine r_pure hT rfl rfl rfl rfl rfl rfl ?_ | refine r_off rfl rfl rfl rfl rfl ?_) | refine gi_plain ?_ | refine gi_exit rfl ?_ | (refine gi_cnd ?_; first | refine gi_true rfl ?_ | refine gi_false rfl ?_)))
            exact nx M hst.symm _ _ _ ⟨rfl, rfl, rfl, rfl, rfl, trivial⟩ ⟨rfl, rfl, rfl, trivial⟩ ⟨rfl, trivial⟩
          rw [placeI_lt] at c1
          obtain ⟨p, hp⟩ : ∃ p, placeL t e.f = some p := by
            cases hp : placeL t e.f with
            | none => rw [hp] at c1; cases c1
            | some p => exact ⟨p, rfl⟩
          (repeat ((refine r_op ?_; first | refine r_pure hT rfl rfl rfl rfl rfl rfl ?_ | refine r_load hT rfl rfl rfl rfl rfl rfl rfl rfl rfl ?_)))
          refine r_call (Place_ok t e.t htl) rfl rfl rfl rfl rfl rfl rfl rfl Try.func38 rfl rfl rfl pI ?_
          rintro r S1 ⟨rfl, rfl⟩
          (repeat (first | refine r_end ?_ | (refine r_op ?_; refine r_pure hT rfl rfl rfl rfl rfl rfl ?_)))
          refine gi_cond rfl (fun c2 => ?_) (fun c2 => ?_)
          · rw [placeI_ge] at c2
            have hst : stepT soon t M e = M := by
              unfold stepT candL
              rw [hp]
              cases hq : placeL t e.t with
              | none => rw [hq] at c2; cases c2
              | some p => rfl
            (repeat (first | refine r_end ?_ | (refine r_op ?_; refine r_pure hT rfl rfl rfl rfl rfl rfl ?_) | refine gi_plain ?_ | refine gi_exit rfl ?_))
            exact nx M hst.symm _ _ _ ⟨rfl, rfl, rfl, rfl, rfl, trivial⟩ ⟨rfl, rfl, rfl, trivial⟩ ⟨rfl, trivial⟩
          rw [placeI_ge] at c2
          have hq : placeL t e.t = none := by
            cases hq : placeL t e.t with
            | none => rfl
            | some p => rw [hq] at c2; cases c2
          have hpl := placeL_lt hp
          obtain ⟨np, hnp⟩ : ∃ np, t[p]? = some np := ⟨_, List.getElem?_eq_getElem hpl⟩
          have hgd : t.getD p zNd = np := by rw [List.getD_eq_getElem?_getD, hnp]; rfl
          obtain ⟨nn, hnn⟩ : ∃ nn : Nd, nn = ⟨e.t, p, wr .i64 (np.c + e.c), e.d⟩ := ⟨_, rfl⟩
          have hc : candL t e = some nn := by unfold candL; rw [hp, hq]; show some (Nd.mk e.t (p : Nat) (wr .i64 ((t.getD p zNd).c + e.c)) e.d) = _; rw [hgd, hnn]
          (repeat (first | refine gi_seq ?_ | refine gi_skip ?_))
          refine gi_drawM [15] [(0, .p), (2, .p), (3, .p), (4, .p), (5, .p), (6, .p), (8, .p), (11, .p), (1, .t), (7, .t), (9, .t), (10, .p), (12, .t), (13, .p), (14, .o), (15, .l)] [0, 1, 0, 0, 0, 24, 32, 64, 0, 256, 640, 0, 2048, 5126, 0, 32767] [0, 1, 0, 0, 0, 24, 32, 64, 0, 256, 640, 0, 2048, 5126, 0, 24576] hm rfl (by kernel_rfl) (fun w1 K => ?_)
          (repeat ((refine r_op ?_; refine r_pure hT rfl rfl rfl rfl rfl rfl ?_)))
          refine r_turn (d := 69) (y := I (p : Int)) rfl (by rw [hp]; rfl) ?_
          refine r_turn (d := 71) (y := I (p : Int)) rfl (by rw [hp]; rfl) ?_
          refine r_idxS hT rfl rfl rfl rfl rfl rfl rfl rfl rfl rfl rfl rfl rfl (by (try dsimp only) <;> (try simp only [wrL, List.length_map, List.length_append, List.length_take, List.length_drop, List.length_replicate, List.length_cons, List.length_nil]) <;> omega) (by (try dsimp only) <;> (try simp only [wrL, List.length_map, List.length_append, List.length_take, List.length_drop, List.length_replicate, List.length_cons, List.length_nil]) <;> omega) ?_
          (repeat ((refine r_op ?_; first | refine r_pure hT rfl rfl rfl rfl rfl rfl ?_ | refine r_load hT rfl rfl rfl rfl rfl rfl rfl rfl rfl ?_)))
          refine r_loadS (row := np.row) hT rfl rfl rfl rfl rfl rfl rfl rfl (by show (t.map Nd.row)[((p : Int)).toNat]? = _; rw [Int.toNat_natCast, List.getElem?_map, hnp]; rfl) rfl rfl rfl ?_
          (repeat (first | refine r_end ?_ | (refine r_op ?_; first | refine r_pure hT rfl rfl rfl rfl rfl rfl ?_ | refine r_load hT rfl rfl rfl rfl rfl rfl rfl rfl rfl ?_ | refine r_store hT rfl rfl rfl rfl rfl rfl rfl rfl rfl rfl ?_ | refine r_alloc hT rfl rfl rfl rfl rfl rfl rfl rfl rfl ?_) | refine gi_seq ?_ | refine gi_plain ?_))
          refine r_case (d := 84) rfl (fun c3 => ?_) (fun c3 => ?_)
          · have hMn : M = none := by
              cases hMb : M with
              | none => rfl
              | some b =>
                rw [hMb, ltB_eq] at c3
                obtain ⟨pb, hb, _⟩ := hgood b hMb
                have := of_decide_eq_true c3
                have : b.p < 0 := this
                omega
            have hst : stepT soon t M e = some nn := by unfold stepT; rw [hc, hMn]
            (repeat (first | refine r_end ?_ | (refine r_op ?_; first | refine r_pure hT rfl rfl rfl rfl rfl rfl ?_ | refine r_load hT rfl rfl rfl rfl rfl rfl rfl rfl rfl ?_ | refine r_store hT rfl rfl rfl rfl rfl rfl rfl rfl rfl rfl ?_ | refine r_off rfl rfl rfl rfl rfl ?_) | refine gi_plain ?_ | refine gi_inBlock ?_ | (refine gi_cnd ?_; first | refine gi_true rfl ?_ | refine gi_false rfl ?_)))
            refine nx (some nn) hst.symm _ _ _ ⟨rfl, rfl, rfl, rfl, rfl, trivial⟩ ⟨rfl, rfl, ?_, trivial⟩ ⟨rfl, trivial⟩
            rw [hnn]; rfl
          · obtain ⟨b, hMb⟩ : ∃ b, M = some b := by
              cases hMb : M with
              | none => rw [hMb, ltB_eq] at c3; have := of_decide_eq_false c3; exact absurd (show ((-1 : Int) < 0) by decide) this
              | some b => exact ⟨b, rfl⟩
            obtain ⟨pb, hb, hbl⟩ := hgood b hMb
            obtain ⟨nb, hnb⟩ : ∃ nb, t[pb]? = some nb := ⟨_, List.getElem?_eq_getElem hbl⟩
            have hsn : soon t nn b = soonF np.v nb.v nn b := by
              unfold soon
              rw [hb, show nn.p = (p : Nat) by rw [hnn], Int.toNat_natCast, Int.toNat_natCast, hgd, List.getD_eq_getElem?_getD, hnb]; rfl
            have hst : stepT soon t M e = match soonF np.v nb.v nn b with
              | true => some nn
              | false => some b := by unfold stepT; rw [hc, hMb, ← hsn]
            subst hMb
            subst hnn
            (repeat ((refine r_op ?_; first | refine r_pure hT rfl rfl rfl rfl rfl rfl ?_ | refine r_load hT rfl rfl rfl rfl rfl rfl rfl rfl rfl ?_)))
            refine r_call (sooner_ok t ⟨e.t, p, wr .i64 (np.c + e.c), e.d⟩ b htl np nb p pb rfl hb hnp hnb) rfl rfl rfl rfl rfl rfl rfl rfl Try.func80 rfl rfl rfl pB ?_
            rintro r S1 ⟨rfl, rfl⟩
            (repeat (first | refine r_end ?_ | (refine r_op ?_; refine r_pure hT rfl rfl rfl rfl rfl rfl ?_)))
            refine gi_cond rfl (fun c4 => ?_) (fun c4 => ?_)
            · rw [c4] at hst
              (repeat (first | refine r_end ?_ | (refine r_op ?_; first | refine r_pure hT rfl rfl rfl rfl rfl rfl ?_ | refine r_load hT rfl rfl rfl rfl rfl rfl rfl rfl rfl ?_ | refine r_store hT rfl rfl rfl rfl rfl rfl rfl rfl rfl rfl ?_) | refine gi_plain ?_ | refine gi_inBlock ?_))
              exact nx (some _) hst.symm _ _ _ ⟨rfl, rfl, rfl, rfl, rfl, trivial⟩ ⟨rfl, rfl, rfl, trivial⟩ ⟨rfl, trivial⟩
            · rw [c4] at hst
              (repeat (first | refine r_end ?_ | (refine r_op ?_; refine r_pure hT rfl rfl rfl rfl rfl rfl ?_) | refine gi_plain ?_ | refine gi_skip ?_ | refine gi_inBlock ?_))
              exact nx (some b) hst.symm _ _ _ ⟨rfl, rfl, rfl, rfl, rfl, trivial⟩ ⟨rfl, rfl, rfl, trivial⟩ ⟨rfl, trivial⟩
        · rw [List.length_map] at h5
          have hjl : j = m.es.length := by omega
          subst hjl
          rw [List.take_length]
          (repeat (first | refine gi_seq ?_ | refine gi_exit rfl ?_))
          exact fin () _ _ _ trivial ⟨rfl, rfl, rfl, rfl, trivial⟩ ⟨rfl, rfl, rfl, trivial⟩ ⟨rfl, trivial⟩
      case after =>
        intro _ _
        have hgood : ∀ b, bestL soon t m.es = some b → GoodN t b := fun b h => best_good (es := m.es) (fun b h => by cases h) b h
        obtain ⟨M, hM⟩ : ∃ M, M = bestL soon t m.es := ⟨_, rfl⟩
        rw [← hM] at hgood ⊢
        (repeat (first | refine r_end ?_ | (refine r_op ?_; first | refine r_pure hT rfl rfl rfl rfl rfl rfl ?_ | refine r_load hT rfl rfl rfl rfl rfl rfl rfl rfl rfl ?_) | refine gi_plain ?_))
        refine gi_cond rfl (fun c5 => ?_) (fun c5 => ?_)
        · have hMn : M = none := by
            cases hMb : M with
            | none => rfl
            | some b =>
              rw [hMb, ltB_eq] at c5
              obtain ⟨pb, hb, _⟩ := hgood b hMb
              have := of_decide_eq_true c5
              have : b.p < 0 := this
              omega
          have hstep : refTree m root = t := by rw [← ht, treeN_none (hM.symm.trans hMn)]
          (repeat (first | refine r_end ?_ | (refine r_op ?_; refine r_pure hT rfl rfl rfl rfl rfl rfl ?_) | refine gi_seq ?_ | refine gi_plain ?_ | refine gi_exit rfl ?_))
          refine gi_retX hT Try.func50 rfl [] [0] rfl rfl rfl rfl rfl rfl rfl rfl ?_
          exact ⟨rfl, rfl, by rw [hstep]⟩
        · obtain ⟨b, hMb⟩ : ∃ b, M = some b := by
            cases hMb : M with
            | none => rw [hMb, ltB_eq] at c5; have := of_decide_eq_false c5; exact absurd (show ((-1 : Int) < 0) by decide) this
            | some b => exact ⟨b, rfl⟩
          have hstep : refTree m root = treeN soon m.es k' (t ++ [b]) := by rw [← ht, treeN_some (hM.symm.trans hMb)]
          subst hMb
          (repeat (first | (refine r_op ?_; first | refine r_pure hT rfl rfl rfl rfl rfl rfl ?_ | refine r_load hT rfl rfl rfl rfl rfl rfl rfl rfl rfl ?_ | refine r_lit hT rfl rfl rfl rfl rfl rfl rfl rfl rfl rfl rfl rfl rfl ?_) | refine gi_plain ?_ | refine gi_skip ?_))
          refine r_append hT rfl rfl rfl rfl rfl rfl rfl rfl rfl rfl rfl rfl rfl rfl rfl rfl rfl ?_ ?_
          · simp only [List.length_cons, List.length_nil, List.length_map, maxLen]
            constructor
            · omega
            · show _ * 40 ≤ _
              omega
          (repeat (first | refine r_end ?_ | (refine r_op ?_; refine r_pure hT rfl rfl rfl rfl rfl rfl ?_) | refine gi_inBlock ?_))
          refine gi_pick [0, 1] [0] rfl rfl rfl rfl rfl ?_
          exact next (k', t ++ [b]) _ _ _ ⟨hstep.symm, by simp only [List.length_append, List.length_cons, List.length_nil]; omega⟩ (by simp only; omega) ⟨rfl, rfl, rfl, trivial⟩ ⟨rfl, rfl, trivial⟩ ⟨eNd_ap t [b], trivial⟩
    · rw [List.length_map, List.length_map] at h3
      have hk0 : k = 0 := by omega
      subst hk0
      have hstep : refTree m root = t := ht.symm
      (repeat (first | refine r_end ?_ | (refine r_op ?_; refine r_pure hT rfl rfl rfl rfl rfl rfl ?_) | refine gi_seq ?_ | refine gi_plain ?_ | refine gi_exit rfl ?_))
      refine gi_retX hT Try.func50 rfl [] [0] rfl rfl rfl rfl rfl rfl rfl rfl ?_
      exact ⟨rfl, rfl, by rw [hstep]⟩
end Go.Proofs.Ytmocggibcniggaa.Kt
