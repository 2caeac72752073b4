/- Part of the proofs of this seat's statements: what the functions compute. No condition. -/
import Derived.Test.YtmocggibcniggaaC18O
set_option linter.unusedSimpArgs false
set_option linter.unusedVariables false
namespace Go.Proofs.Ytmocggibcniggaa.Kt
open Go Kw Go.Proofs
attribute [local irreducible] Kw.GI Kw.GR Kw.FnR Kw.FnX
set_option maxHeartbeats 16000000
set_option maxRecDepth 100000
abbrev MO : Nat := 4294967295
abbrev hMp (l : MapL) : Option (TypeId × List AV) := some (4294967295, mapC l)
def prgTree (m : Mp) (root : Vt) : List Nd := match m.vs.any (fun x => decide (x = root)) with
  | true => treeN betr m.es m.vs.length [rootN root]
  | false => []
theorem pig : ∀ {l l' : List Vt}, l.Nodup → (∀ x ∈ l, x ∈ l') → l.length ≤ l'.length
  | [], _, _, _ => Nat.zero_le _
  | x :: l, l', h, hs => by
    rw [List.nodup_cons] at h
    have hx := hs x (List.mem_cons_self ..)
    have h1 := pig (l := l) (l' := l'.erase x) h.2 (fun y hy => (List.mem_erase_of_ne (fun (e : y = x) => h.1 (by rw [← e]; exact hy))).2 (hs y (List.mem_cons_of_mem _ hy)))
    have h2 := List.length_erase_of_mem hx
    have h3 := List.length_pos_of_mem hx
    rw [List.length_cons]
    omega
theorem scL_mapC {n k : Nat} : ∀ (l : MapL), scL n k (mapC l) = true
  | [] => rfl
  | (a, b, v) :: l => by
    show (true && (true && (true && scL n k (mapC l)))) = true
    rw [scL_mapC l]; rfl
theorem pkL_mapC {bs ks : List Nat} : ∀ (l : MapL), pkL bs ks (mapC l) = mapC l
  | [] => rfl
  | (a, b, v) :: l => by
    show _ :: _ :: _ :: pkL bs ks (mapC l) = mapC ((a, b, v) :: l)
    rw [pkL_mapC l]; rfl
theorem cut_mapC {k : Nat} : ∀ (l : MapL), cutLP (noK k) (mapC l) = mapC l
  | [] => rfl
  | (a, b, v) :: l => by
    show _ :: _ :: _ :: cutLP (noK k) (mapC l) = mapC ((a, b, v) :: l)
    rw [cut_mapC l]; rfl
theorem sc1 {n k : Nat} {F : Fr} {m : Mp} {root : Vt} {l : MapL} (h : scF n k F = true) : (scF n k F && (true && (true && (scL n k (mapC l) && true)))) = true := by
  rw [h, scL_mapC]; rfl
def placeJ : Option Nat → Int
  | some i => i
  | none => 0
theorem lk_ok (v : Vt) (t : List Nd) : (AV.tup [I (placeJ (placeL t v)), Bo (placeL t v).isSome]) = if true then .tup [.r (.v (((lookM v.k v.i (pmap 0 t)).map (·.2)).getD (.int .i64 0))), .r (.v (.bool (lookM v.k v.i (pmap 0 t)).isSome))] else .r (.v (((lookM v.k v.i (pmap 0 t)).map (·.2)).getD (.int .i64 0))) := by
  rw [pmap_look]
  cases placeL t v with
  | none => rfl
  | some p => rfl
theorem isM_ok (v : Vt) (vs : List Vt) : (Bo (vs.any (fun x => decide (x = v)))) = if false then .tup [.r (.v (((lookM v.k v.i (isM vs)).map (·.2)).getD (.bool false))), .r (.v (.bool (lookM v.k v.i (isM vs)).isSome))] else .r (.v (((lookM v.k v.i (isM vs)).map (·.2)).getD (.bool false))) := by
  rw [isM_val]
  rfl
theorem sc2 {b : Bool} {l l' : MapL} {n k : Nat} (h : b = true) : (b && (true && (true && (scL n k (mapC l) && (scL n k (mapC l') && (true && true)))))) = true := by
  rw [h, scL_mapC, scL_mapC]; rfl
theorem best_fold {bt : List Nd → Nd → Nd → Bool} {t : List Nd} {b : Nd} : ∀ {es : List Eg} {m : Option Nd}, es.foldl (stepT bt t) m = some b → m = some b ∨ ∃ e ∈ es, candL t e = some b
  | [], m, h => .inl h
  | e :: es, m, h => by
    rcases best_fold (es := es) h with h | ⟨e', h1, h2⟩
    · unfold stepT at h
      split at h
      · exact .inl h
      · rename_i n hn
        split at h
        · cases h; exact .inr ⟨e, List.mem_cons_self .., hn⟩
        · split at h
          · cases h; exact .inr ⟨e, List.mem_cons_self .., hn⟩
          · exact .inl h
    · exact .inr ⟨e', List.mem_cons_of_mem _ h1, h2⟩
theorem best_new {bt : List Nd → Nd → Nd → Bool} {t : List Nd} {b : Nd} {es : List Eg} (h : bestL bt t es = some b) : placeL t b.v = none ∧ ∃ e ∈ es, b.v = e.t := by
  rcases best_fold h with h | ⟨e, h1, h2⟩
  · cases h
  · unfold candL at h2
    split at h2
    · rename_i hq
      cases h2
      exact ⟨hq, e, h1, rfl⟩
    · cases h2
theorem pTree_ok (m : Mp) (root : Vt) (hv : m.vs.length ≤ 10000) (he : m.es.length ≤ 10000000) (hto : ∀ e ∈ m.es, m.vs.any (fun x => decide (x = e.t)) = true) : FnX Try.prog 49 [avMf m, root.av] [] [] (RV1 (eNd (prgTree m root))) := by
  refine fnX_intro (T := TT) (n := 110) Try.func49 rfl rfl rfl (fun w X Z Y B => ?_)
  (repeat (first | refine r_end ?_ | (refine r_op ?_; first | refine r_pure hT rfl rfl rfl rfl rfl rfl ?_ | refine r_load hT rfl rfl rfl rfl rfl rfl rfl rfl rfl ?_ | refine r_box rfl rfl rfl rfl rfl rfl rfl rfl rfl ?_) | refine gi_seq ?_ | refine gi_plain ?_))
  refine r_thaw 20 rfl ?_
  refine r_call (ContainsV_ok m.vs root (by omega)) rfl rfl rfl rfl rfl rfl rfl rfl Try.func55 rfl rfl rfl pB ?_
  rintro r S1 ⟨rfl, rfl⟩
  (repeat (first | refine r_end ?_ | (refine r_op ?_; refine r_pure hT rfl rfl rfl rfl rfl rfl ?_)))
  refine gi_cond rfl (fun c0 => ?_) (fun c0 => ?_)
  · rw [notB_eq, Bool.not_eq_true'] at c0
    have hrt : prgTree m root = [] := by unfold prgTree; rw [c0]
    (repeat (first | refine r_end ?_ | (refine r_op ?_; refine r_pure hT rfl rfl rfl rfl rfl rfl ?_) | refine gi_seq ?_ | refine gi_plain ?_))
    refine gi_adopt (e := 58) (sz := 5) 4 rfl ?_
    refine gi_retX hT Try.func49 rfl [] [0] rfl rfl rfl rfl rfl rfl rfl rfl ?_
    exact ⟨rfl, rfl, by rw [hrt]; rfl⟩
  rw [notB_eq, Bool.not_eq_false'] at c0
  have hrt : prgTree m root = treeN betr m.es m.vs.length [rootN root] := by unfold prgTree; rw [c0]
  (repeat (first | refine gi_seq ?_ | refine gi_plain ?_ | refine gi_skip ?_))
  refine r_makeMap rfl rfl rfl rfl rfl ?_
  (repeat (first | refine r_end ?_ | (refine r_op ?_; first | refine r_pure hT rfl rfl rfl rfl rfl rfl ?_ | refine r_load hT rfl rfl rfl rfl rfl rfl rfl rfl rfl ?_) | refine gi_seq ?_ | refine gi_plain ?_ | refine gi_block ?_))
  apply gi_cut (σ := Unit) (fun _ => [(5, .box 2 MO), (3, .box 1 0), (2, .box 0 0)]) (fun _ => [hMf m, hV root, hMp (isM m.vs)]) (fun _ => []) (fun _ => True) (fun _ => sc1 (m := m) (root := root) rfl)
  case first =>
    intro fin
    refine gi_thaw 26 rfl ?_
    refine gi_loop (σ := Nat) (fun j => [(28, I j), (27, I m.vs.length), (26, .r (.rs 2 (m.vs.map Vt.row))), (5, .box 2 MO), (3, .box 1 0), (2, .box 0 0)]) (fun j => [hMf m, hV root, hMp (isM (m.vs.take j))]) (fun _ => []) (fun j => j ≤ m.vs.length) (fun j => m.vs.length - j) 0 (Nat.zero_le _) ⟨rfl, by show some (I ((m.vs.map Vt.row).length : Nat)) = _; rw [List.length_map], rfl, rfl, rfl, rfl, trivial⟩ ⟨rfl, rfl, rfl, trivial⟩ trivial (fun _ => sc1 (m := m) (root := root) rfl) (fun j hj next => ?_)
    have hj : j ≤ m.vs.length := hj
    (repeat (first | refine r_end ?_ | (refine r_op ?_; refine r_pure hT rfl rfl rfl rfl rfl rfl ?_) | refine gi_seq ?_ | refine gi_plain ?_))
    refine gi_lt rfl (fun h3 => ?_) (fun h3 => ?_)
    · have hjl : j < m.vs.length := by omega
      obtain ⟨x, hx⟩ : ∃ x, m.vs[j]? = some x := ⟨_, List.getElem?_eq_getElem hjl⟩
      have hft : isM (m.vs.take (j + 1)) = updM x.k x.i (.bool true) (isM (m.vs.take j)) := fold_take (fun (mm : MapL) (v : Vt) => updM v.k v.i (.bool true) mm) [] hx
      (repeat (first | refine gi_seq ?_ | refine gi_plain ?_ | refine gi_skip ?_ | refine gi_block ?_))
      refine r_idx (row := x.row) hT rfl rfl rfl rfl rfl rfl rfl rfl rfl rfl rfl rfl (by omega) (by simp [hx]) ?_
      (repeat (first | refine r_end ?_ | (refine r_op ?_; first | refine r_pure hT rfl rfl rfl rfl rfl rfl ?_ | refine r_load hT rfl rfl rfl rfl rfl rfl rfl rfl rfl ?_ | refine r_store hT rfl rfl rfl rfl rfl rfl rfl rfl rfl rfl ?_ | refine r_alloc hT rfl rfl rfl rfl rfl rfl rfl rfl rfl ?_) | refine gi_plain ?_))
      refine r_mapUpd (l := isM (m.vs.take j)) (p := x.k) (r := x.i) (v := .bool true) rfl (.inl rfl) rfl rfl rfl rfl rfl rfl Try.underlying135 y_flat_Vt ?_
      (repeat (first | refine r_end ?_ | (refine r_op ?_; refine r_pure hT rfl rfl rfl rfl rfl rfl ?_) | refine gi_plain ?_ | refine gi_inBlock ?_))
      refine next (j + 1) _ _ _ hjl (by omega) ⟨?_, rfl, rfl, rfl, rfl, rfl, trivial⟩ ⟨rfl, rfl, by rw [hft], trivial⟩ trivial
      show some (I (wr .i64 ((j : Int) + 1))) = _
      rw [wr_i64 (by omega) (by omega)]
      simp
    · have hjl : j = m.vs.length := by omega
      subst hjl
      rw [List.take_length]
      (repeat (first | refine gi_seq ?_ | refine gi_exit rfl ?_))
      exact fin () _ _ _ trivial ⟨rfl, rfl, rfl, trivial⟩ ⟨rfl, rfl, rfl, trivial⟩ trivial
  case after =>
    intro _ _
    (repeat (first | refine r_end ?_ | (refine r_op ?_; first | refine r_pure hT rfl rfl rfl rfl rfl rfl ?_ | refine r_load hT rfl rfl rfl rfl rfl rfl rfl rfl rfl ?_ | refine r_lit hT rfl rfl rfl rfl rfl rfl rfl rfl rfl rfl rfl rfl rfl ?_) | refine gi_seq ?_ | refine gi_plain ?_))
    refine r_makeMap rfl rfl rfl rfl rfl ?_
    (repeat ((refine r_op ?_; refine r_load hT rfl rfl rfl rfl rfl rfl rfl rfl rfl ?_)))
    refine r_mapUpd (l := []) (p := root.k) (r := root.i) (v := .int .i64 0) rfl (.inr rfl) rfl rfl rfl rfl rfl rfl Try.underlying136 y_flat_Vt ?_
    (repeat (first | refine r_end ?_ | (refine r_op ?_; refine r_pure hT rfl rfl rfl rfl rfl rfl ?_) | refine gi_block ?_))
    refine gi_loop (σ := Nat × List Nd) (fun _ => [(8, .sl 0), (9, .box 3 MO), (5, .box 2 MO), (3, .box 1 0), (2, .box 0 0)]) (fun s => [hMf m, hV root, hMp (isM m.vs), hMp (pmap 0 s.2)]) (fun s => [eNd s.2]) (fun s => treeN betr m.es s.1 s.2 = prgTree m root ∧ s.2.length + s.1 = m.vs.length + 1 ∧ (s.2.map Nd.v).Nodup ∧ ∀ x ∈ s.2.map Nd.v, x ∈ m.vs) (fun s => s.1) (m.vs.length, [rootN root]) ⟨hrt.symm, by simp only [List.length_cons, List.length_nil]; omega, by simp, ?_⟩ ⟨rfl, rfl, rfl, rfl, rfl, trivial⟩ ⟨rfl, rfl, rfl, rfl, trivial⟩ ⟨rfl, trivial⟩ (fun s => ?_) (fun s hs next => ?_)
    · intro x hx
      obtain ⟨y, hy, hyr⟩ := List.any_eq_true.1 c0
      simp only [List.map_cons, List.map_nil, List.mem_singleton] at hx
      rw [hx, show (rootN root).v = root from rfl, ← of_decide_eq_true hyr]
      exact hy
    · show (true && (true && (true && (scL _ _ (mapC (isM m.vs)) && (scL _ _ (mapC (pmap 0 s.2)) && true))))) = true
      rw [scL_mapC, scL_mapC]; rfl
    obtain ⟨k, t⟩ := s
    obtain ⟨ht, hk, hnd, hsub⟩ := hs
    simp only at ht hk hnd hsub
    have htl : t.length ≤ m.vs.length := by have := pig hnd hsub; rwa [List.length_map] at this
    obtain ⟨k', rfl⟩ : ∃ k', k = k' + 1 := ⟨k - 1, by omega⟩
    (repeat (first | refine r_end ?_ | (refine r_op ?_; first | refine r_pure hT rfl rfl rfl rfl rfl rfl ?_ | refine r_load hT rfl rfl rfl rfl rfl rfl rfl rfl rfl ?_ | refine r_alloc hT rfl rfl rfl rfl rfl rfl rfl rfl rfl ?_) | refine gi_seq ?_ | refine gi_plain ?_ | refine gi_block ?_))
    refine gi_thaw 42 rfl ?_
    apply gi_cut (σ := Unit) (fun _ => [(11, Bo (bestL betr t m.es).isSome), (10, .box 4 0), (8, .sl 0), (9, .box 3 MO), (5, .box 2 MO), (3, .box 1 0), (2, .box 0 0)]) (fun _ => [hMf m, hV root, hMp (isM m.vs), hMp (pmap 0 t), hNd ((bestL betr t m.es).getD zNd)]) (fun _ => [eNd t]) (fun _ => True) (fun _ => sc2 rfl)
    case first =>
      intro fin
      refine gi_loop (σ := Nat) (fun j => [(44, I j), (43, I m.es.length), (42, .r (.rs 6 (m.es.map Eg.row))), (11, Bo (bestL betr t (m.es.take j)).isSome), (10, .box 4 0), (8, .sl 0), (9, .box 3 MO), (5, .box 2 MO), (3, .box 1 0), (2, .box 0 0)]) (fun j => [hMf m, hV root, hMp (isM m.vs), hMp (pmap 0 t), hNd ((bestL betr t (m.es.take j)).getD zNd)]) (fun _ => [eNd t]) (fun j => j ≤ m.es.length) (fun j => m.es.length - j) 0 (Nat.zero_le _) ⟨rfl, by show some (I ((m.es.map Eg.row).length : Nat)) = _; rw [List.length_map], rfl, rfl, rfl, rfl, rfl, rfl, rfl, rfl, trivial⟩ ⟨rfl, rfl, rfl, rfl, rfl, trivial⟩ ⟨rfl, trivial⟩ (fun _ => sc2 rfl) (fun j hj next2 => ?_)
      have hj : j ≤ m.es.length := hj
      (repeat (first | refine r_end ?_ | (refine r_op ?_; refine r_pure hT rfl rfl rfl rfl rfl rfl ?_) | refine gi_seq ?_ | refine gi_plain ?_))
      refine gi_lt rfl (fun h5 => ?_) (fun h5 => ?_)
      · have hjl : j < m.es.length := by omega
        obtain ⟨e, hee⟩ : ∃ e, m.es[j]? = some e := ⟨_, List.getElem?_eq_getElem hjl⟩
        have hft : bestL betr t (m.es.take (j + 1)) = stepT betr t (bestL betr t (m.es.take j)) e := fold_take (stepT betr t) none hee
        have hgood : ∀ b, bestL betr t (m.es.take j) = some b → GoodN t b := fun b h => best_good (es := m.es.take j) (fun b h => by cases h) b h
        obtain ⟨M, hM⟩ : ∃ M, M = bestL betr t (m.es.take j) := ⟨_, rfl⟩
        rw [← hM] at hft hgood
        rw [← hM]
        have nx : ∀ M', M' = stepT betr t M e → ∀ F1 H1 S1, SubF [(44, I (wr .i64 ((j : Int) + 1))), (43, I m.es.length), (42, .r (.rs 6 (m.es.map Eg.row))), (11, Bo M'.isSome), (10, .box 4 0), (8, .sl 0), (9, .box 3 MO), (5, .box 2 MO), (3, .box 1 0), (2, .box 0 0)] F1 → SubH [hMf m, hV root, hMp (isM m.vs), hMp (pmap 0 t), hNd (M'.getD zNd)] H1 → SubS [eNd t] S1 → GI _ _ F1 H1 S1 := fun M' h F1 H1 S1 hF hH hS => by
          refine next2 (j + 1) F1 H1 S1 hjl (by omega) ?_ (by rw [hft, ← h]; exact hH) hS
          rw [hft, ← h]
          rw [wr_i64 (by omega) (by omega)] at hF
          simpa using hF
        (repeat (first | refine gi_seq ?_ | refine gi_plain ?_ | refine gi_skip ?_ | refine gi_block ?_))
        refine r_idx (row := e.row) hT rfl rfl rfl rfl rfl rfl rfl rfl rfl rfl rfl rfl (by omega) (by simp [hee]) ?_
        (repeat (first | refine r_end ?_ | (refine r_op ?_; first | refine r_pure hT rfl rfl rfl rfl rfl rfl ?_ | refine r_load hT rfl rfl rfl rfl rfl rfl rfl rfl rfl ?_ | refine r_store hT rfl rfl rfl rfl rfl rfl rfl rfl rfl rfl ?_ | refine r_alloc hT rfl rfl rfl rfl rfl rfl rfl rfl rfl ?_) | refine gi_seq ?_ | refine gi_plain ?_))
        refine r_lookup (l := pmap 0 t) (p := e.f.k) (r := e.f.i) (ok := true) (zv := .int .i64 0) (v := .tup [I (placeJ (placeL t e.f)), Bo (placeL t e.f).isSome]) rfl rfl rfl rfl rfl rfl rfl rfl Try.underlying136 y_flat_Vt (by kernel_rfl) (lk_ok e.f t) rfl ?_
        (repeat (first | refine r_end ?_ | (refine r_op ?_; first | refine r_pure hT rfl rfl rfl rfl rfl rfl ?_ | refine r_load hT rfl rfl rfl rfl rfl rfl rfl rfl rfl ?_) | refine gi_seq ?_ | refine gi_plain ?_))
        refine r_lookup (l := pmap 0 t) (p := e.t.k) (r := e.t.i) (ok := true) (zv := .int .i64 0) (v := .tup [I (placeJ (placeL t e.t)), Bo (placeL t e.t).isSome]) rfl rfl rfl rfl rfl rfl rfl rfl Try.underlying136 y_flat_Vt (by kernel_rfl) (lk_ok e.t t) rfl ?_
        (repeat (first | refine r_end ?_ | (refine r_op ?_; refine r_pure hT rfl rfl rfl rfl rfl rfl ?_) | refine gi_seq ?_ | refine gi_plain ?_))
        refine r_case (d := 64) rfl (fun c1 => ?_) (fun c1 => ?_)
        · rw [notB_eq, Bool.not_eq_true'] at c1
          have hst : stepT betr t M e = M := by
            unfold stepT candL
            cases hp : placeL t e.f with
            | none => rfl
            | some p => rw [hp] at c1; cases c1
          (repeat (first | refine r_end ?_ | (refine r_op ?_; first | refine r_pure hT rfl rfl rfl rfl rfl rfl ?_ | refine r_off rfl rfl rfl rfl rfl ?_) | refine gi_plain ?_ | refine gi_exit rfl ?_ | (refine gi_cnd ?_; first | refine gi_true rfl ?_ | refine gi_false rfl ?_)))
          exact nx M hst.symm _ _ _ ⟨rfl, rfl, rfl, rfl, rfl, rfl, rfl, rfl, rfl, rfl, trivial⟩ ⟨rfl, rfl, rfl, rfl, rfl, trivial⟩ ⟨rfl, trivial⟩
        rw [notB_eq, Bool.not_eq_false'] at c1
        obtain ⟨p, hp⟩ : ∃ p, placeL t e.f = some p := Option.isSome_iff_exists.1 c1
        (repeat ((refine r_op ?_; refine r_pure hT rfl rfl rfl rfl rfl rfl ?_)))
        refine r_case (d := 67) rfl (fun c2 => ?_) (fun c2 => ?_)
        · have hst : stepT betr t M e = M := by
            unfold stepT candL
            rw [hp]
            cases hq : placeL t e.t with
            | none => rw [hq] at c2; cases c2
            | some p => rfl
          (repeat (first | refine r_end ?_ | (refine r_op ?_; first | refine r_pure hT rfl rfl rfl rfl rfl rfl ?_ | refine r_off rfl rfl rfl rfl rfl ?_) | refine gi_plain ?_ | refine gi_exit rfl ?_ | (refine gi_cnd ?_; first | refine gi_true rfl ?_ | refine gi_false rfl ?_)))
          exact nx M hst.symm _ _ _ ⟨rfl, rfl, rfl, rfl, rfl, rfl, rfl, rfl, rfl, rfl, trivial⟩ ⟨rfl, rfl, rfl, rfl, rfl, trivial⟩ ⟨rfl, trivial⟩
        have hq : placeL t e.t = none := by
          cases hq : placeL t e.t with
          | none => rfl
          | some p => rw [hq] at c2; cases c2
        (repeat ((refine r_op ?_; first | refine r_pure hT rfl rfl rfl rfl rfl rfl ?_ | refine r_load hT rfl rfl rfl rfl rfl rfl rfl rfl rfl ?_)))
        refine r_lookup (l := isM m.vs) (p := e.t.k) (r := e.t.i) (ok := false) (zv := .bool false) (v := Bo (m.vs.any (fun x => decide (x = e.t)))) rfl rfl rfl rfl rfl rfl rfl rfl Try.underlying135 y_flat_Vt (by kernel_rfl) (isM_ok e.t m.vs) rfl ?_
        have hin := hto e (List.mem_of_getElem? hee)
        (repeat (first | refine r_end ?_ | (refine r_op ?_; refine r_pure hT rfl rfl rfl rfl rfl rfl ?_)))
        refine gi_known (d := 73) (b := false) rfl (by rw [notB_eq, hin]; rfl) ?_
        have hpl := placeL_lt hp
        obtain ⟨np, hnp⟩ : ∃ np, t[p]? = some np := ⟨_, List.getElem?_eq_getElem hpl⟩
        have hgd : t.getD p zNd = np := by rw [List.getD_eq_getElem?_getD, hnp]; rfl
        obtain ⟨nn, hnn⟩ : ∃ nn : Nd, nn = ⟨e.t, p, wr .i64 (np.c + e.c), e.d⟩ := ⟨_, rfl⟩
        have hc : candL t e = some nn := by unfold candL; rw [hp, hq]; show some (Nd.mk e.t (p : Nat) (wr .i64 ((t.getD p zNd).c + e.c)) e.d) = _; rw [hgd, hnn]
        (repeat (first | refine gi_seq ?_ | refine gi_skip ?_ | (refine gi_cnd ?_; first | refine gi_true rfl ?_ | refine gi_false rfl ?_)))
        refine gi_drawM [15] [(0, .p), (2, .p), (3, .p), (4, .p), (5, .p), (6, .p), (8, .p), (11, .p), (1, .t), (7, .t), (9, .t), (10, .p), (12, .t), (13, .p), (14, .o), (15, .l)] [0, 1, 0, 0, 0, 24, 32, 64, 0, 256, 640, 0, 2048, 5126, 0, 32767] [0, 1, 0, 0, 0, 24, 32, 64, 0, 256, 640, 0, 2048, 5126, 0, 24576] hm rfl (by kernel_rfl) (fun w1 K => ?_)
        (repeat ((refine r_op ?_; refine r_pure hT rfl rfl rfl rfl rfl rfl ?_)))
        refine r_turn (d := 76) (y := I (p : Int)) rfl (by rw [hp]; rfl) ?_
        refine r_turn (d := 78) (y := I (p : Int)) rfl (by rw [hp]; rfl) ?_
        refine r_idxS hT rfl rfl rfl rfl rfl rfl rfl rfl rfl rfl rfl rfl rfl (by (try dsimp only) <;> (try simp only [wrL, List.length_map, List.length_append, List.length_take, List.length_drop, List.length_replicate, List.length_cons, List.length_nil]) <;> omega) (by (try dsimp only) <;> (try simp only [wrL, List.length_map, List.length_append, List.length_take, List.length_drop, List.length_replicate, List.length_cons, List.length_nil]) <;> omega) ?_
        (repeat ((refine r_op ?_; first | refine r_pure hT rfl rfl rfl rfl rfl rfl ?_ | refine r_load hT rfl rfl rfl rfl rfl rfl rfl rfl rfl ?_)))
        refine r_loadS (row := np.row) hT rfl rfl rfl rfl rfl rfl rfl rfl (by show (t.map Nd.row)[((p : Int)).toNat]? = _; rw [Int.toNat_natCast, List.getElem?_map, hnp]; rfl) rfl rfl rfl ?_
        (repeat (first | refine r_end ?_ | (refine r_op ?_; first | refine r_pure hT rfl rfl rfl rfl rfl rfl ?_ | refine r_load hT rfl rfl rfl rfl rfl rfl rfl rfl rfl ?_ | refine r_store hT rfl rfl rfl rfl rfl rfl rfl rfl rfl rfl ?_ | refine r_alloc hT rfl rfl rfl rfl rfl rfl rfl rfl rfl ?_) | refine gi_seq ?_ | refine gi_plain ?_))
        refine r_case (d := 90) rfl (fun c3 => ?_) (fun c3 => ?_)
        · have hMn : M = none := by
            cases hMb : M with
            | none => rfl
            | some b => rw [hMb, notB_eq] at c3; cases c3
          have hst : stepT betr t M e = some nn := by unfold stepT; rw [hc, hMn]
          (repeat (first | refine r_end ?_ | (refine r_op ?_; first | refine r_pure hT rfl rfl rfl rfl rfl rfl ?_ | refine r_load hT rfl rfl rfl rfl rfl rfl rfl rfl rfl ?_ | refine r_store hT rfl rfl rfl rfl rfl rfl rfl rfl rfl rfl ?_ | refine r_off rfl rfl rfl rfl rfl ?_) | refine gi_plain ?_ | refine gi_inBlock ?_ | (refine gi_cnd ?_; first | refine gi_true rfl ?_ | refine gi_false rfl ?_)))
          refine nx (some nn) hst.symm _ _ _ ⟨rfl, rfl, rfl, rfl, rfl, rfl, rfl, rfl, rfl, rfl, trivial⟩ ⟨rfl, rfl, rfl, rfl, ?_, trivial⟩ ⟨rfl, trivial⟩
          rw [hnn]; rfl
        · obtain ⟨b, hMb⟩ : ∃ b, M = some b := by
            cases hMb : M with
            | none => rw [hMb, notB_eq] at c3; cases c3
            | some b => exact ⟨b, rfl⟩
          obtain ⟨pb, hb, hbl⟩ := hgood b hMb
          obtain ⟨nb, hnb⟩ : ∃ nb, t[pb]? = some nb := ⟨_, List.getElem?_eq_getElem hbl⟩
          have hsn : betr t nn b = ltB (btI np.v nb.v nn b) 0 := by
            unfold betr
            rw [hb, show nn.p = (p : Nat) by rw [hnn], Int.toNat_natCast, Int.toNat_natCast, hgd, List.getD_eq_getElem?_getD, hnb]; rfl
          have hst : stepT betr t M e = match ltB (btI np.v nb.v nn b) 0 with
            | true => some nn
            | false => some b := by unfold stepT; rw [hc, hMb, ← hsn]; rfl
          subst hMb
          subst hnn
          (repeat ((refine r_op ?_; first | refine r_pure hT rfl rfl rfl rfl rfl rfl ?_ | refine r_load hT rfl rfl rfl rfl rfl rfl rfl rfl rfl ?_)))
          refine r_call (better_ok t ⟨e.t, p, wr .i64 (np.c + e.c), e.d⟩ b (by omega) np nb p pb rfl hb hnp hnb) rfl rfl rfl rfl rfl rfl rfl rfl Try.func79 rfl rfl rfl pB ?_
          rintro r S1 ⟨rfl, rfl⟩
          (repeat (first | refine r_end ?_ | (refine r_op ?_; refine r_pure hT rfl rfl rfl rfl rfl rfl ?_)))
          refine gi_cond rfl (fun c4 => ?_) (fun c4 => ?_)
          · rw [c4] at hst
            (repeat (first | refine r_end ?_ | (refine r_op ?_; first | refine r_pure hT rfl rfl rfl rfl rfl rfl ?_ | refine r_load hT rfl rfl rfl rfl rfl rfl rfl rfl rfl ?_ | refine r_store hT rfl rfl rfl rfl rfl rfl rfl rfl rfl rfl ?_) | refine gi_plain ?_ | refine gi_inBlock ?_))
            exact nx (some _) hst.symm _ _ _ ⟨rfl, rfl, rfl, rfl, rfl, rfl, rfl, rfl, rfl, rfl, trivial⟩ ⟨rfl, rfl, rfl, rfl, rfl, trivial⟩ ⟨rfl, trivial⟩
          · rw [c4] at hst
            (repeat (first | refine r_end ?_ | (refine r_op ?_; refine r_pure hT rfl rfl rfl rfl rfl rfl ?_) | refine gi_plain ?_ | refine gi_skip ?_ | refine gi_inBlock ?_))
            exact nx (some b) hst.symm _ _ _ ⟨rfl, rfl, rfl, rfl, rfl, rfl, rfl, rfl, rfl, rfl, trivial⟩ ⟨rfl, rfl, rfl, rfl, rfl, trivial⟩ ⟨rfl, trivial⟩
      · have hjl : j = m.es.length := by omega
        subst hjl
        rw [List.take_length]
        (repeat (first | refine gi_seq ?_ | refine gi_exit rfl ?_))
        exact fin () _ _ _ trivial ⟨rfl, rfl, rfl, rfl, rfl, rfl, rfl, trivial⟩ ⟨rfl, rfl, rfl, rfl, rfl, trivial⟩ ⟨rfl, trivial⟩
    case after =>
      intro _ _
      obtain ⟨M, hM⟩ : ∃ M, M = bestL betr t m.es := ⟨_, rfl⟩
      rw [← hM]
      cases hMb : M with
      | none =>
        have hstep : prgTree m root = t := by rw [← ht, treeN_none (hM.symm.trans hMb)]
        (repeat (first | refine r_end ?_ | (refine r_op ?_; refine r_pure hT rfl rfl rfl rfl rfl rfl ?_) | refine gi_plain ?_))
        refine gi_known (d := 99) (b := true) rfl (by rw [notB_eq]; rfl) ?_
        (repeat (first | refine r_end ?_ | (refine r_op ?_; refine r_pure hT rfl rfl rfl rfl rfl rfl ?_) | refine gi_seq ?_ | refine gi_plain ?_ | (refine gi_cnd ?_; first | refine gi_true rfl ?_ | refine gi_false rfl ?_)))
        refine gi_retX hT Try.func49 rfl [] [0] rfl rfl rfl rfl rfl rfl rfl rfl ?_
        exact ⟨rfl, rfl, by rw [hstep]⟩
      | some b =>
        have hstep : prgTree m root = treeN betr m.es k' (t ++ [b]) := by rw [← ht, treeN_some (hM.symm.trans hMb)]
        obtain ⟨hb1, hb2⟩ := best_new (hM.symm.trans hMb)
        (repeat (first | refine r_end ?_ | (refine r_op ?_; refine r_pure hT rfl rfl rfl rfl rfl rfl ?_) | refine gi_plain ?_))
        refine gi_known (d := 99) (b := false) rfl (by rw [notB_eq]; rfl) ?_
        (repeat (first | (refine r_op ?_; first | refine r_pure hT rfl rfl rfl rfl rfl rfl ?_ | refine r_load hT rfl rfl rfl rfl rfl rfl rfl rfl rfl ?_) | refine gi_seq ?_ | refine gi_plain ?_ | refine gi_skip ?_ | (refine gi_cnd ?_; first | refine gi_true rfl ?_ | refine gi_false rfl ?_)))
        refine r_mapUpd (l := pmap 0 t) (p := b.v.k) (r := b.v.i) (v := .int .i64 ((t.map Nd.row).length : Nat)) rfl (.inl rfl) rfl rfl rfl rfl rfl rfl Try.underlying136 y_flat_Vt ?_
        (repeat (first | refine r_end ?_ | (refine r_op ?_; first | refine r_pure hT rfl rfl rfl rfl rfl rfl ?_ | refine r_load hT rfl rfl rfl rfl rfl rfl rfl rfl rfl ?_ | refine r_lit hT rfl rfl rfl rfl rfl rfl rfl rfl rfl rfl rfl rfl rfl ?_) | refine gi_plain ?_))
        refine r_append hT rfl rfl rfl rfl rfl rfl rfl rfl rfl rfl rfl rfl rfl rfl rfl rfl rfl ?_ ?_
        · simp only [List.length_cons, List.length_nil, List.length_map, maxLen]
          constructor
          · omega
          · show _ * 40 ≤ _
            omega
        (repeat (first | refine r_end ?_ | (refine r_op ?_; refine r_pure hT rfl rfl rfl rfl rfl rfl ?_) | refine gi_inBlock ?_))
        refine next (k', t ++ [b]) _ _ _ ⟨hstep.symm, by simp only [List.length_append, List.length_cons, List.length_nil]; omega, ?_, ?_⟩ (by simp only; omega) ⟨rfl, rfl, rfl, rfl, rfl, trivial⟩ ⟨rfl, rfl, by rw [cut_mapC], ?_, trivial⟩ ⟨eNd_ap t [b], trivial⟩
        · simp only [List.map_append, List.map_cons, List.map_nil]
          rw [List.nodup_append]
          refine ⟨hnd, by simp, ?_⟩
          intro x hx y hy e
          rw [List.mem_singleton.1 hy] at e
          obtain ⟨n, hn, rfl⟩ := List.mem_map.1 hx
          exact placeL_none hb1 n hn e
        · intro x hx
          simp only [List.map_append, List.map_cons, List.map_nil, List.mem_append, List.mem_singleton] at hx
          rcases hx with hx | rfl
          · exact hsub x hx
          · obtain ⟨e, he1, he2⟩ := hb2
            obtain ⟨y, hy, hyr⟩ := List.any_eq_true.1 (hto e he1)
            rw [he2, ← of_decide_eq_true hyr]
            exact hy
        · show hMp (pmap 0 (t ++ [b])) = some (4294967295, cutLP (noK 0) (mapC (updM b.v.k b.v.i (.int .i64 ((t.map Nd.row).length : Nat)) (pmap 0 t))))
          rw [cut_mapC, List.length_map, pmap_upd hb1]
end Go.Proofs.Ytmocggibcniggaa.Kt
