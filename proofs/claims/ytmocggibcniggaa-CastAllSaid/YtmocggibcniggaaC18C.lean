/- Part of the proofs of this seat's statements: what the functions compute. No condition. -/
import Derived.Test.YtmocggibcniggaaC18B
import Derived.Test.YtmocggibcniggaaK4
set_option linter.unusedSimpArgs false
set_option linter.unusedVariables false
namespace Go.Proofs.Ytmocggibcniggaa.Kt
open Go Kw Go.Proofs
attribute [local irreducible] Kw.GI Kw.GR Kw.FnR Kw.FnX
set_option maxHeartbeats 8000000
set_option maxRecDepth 100000
def isV (v : Vt) (x : Ls) : Bool := (decide (v.k = 1) && (decide (x.kind = 1) && decide (x.id = x.adv))) || (decide (v.k = 2) && decide (x.kind = 2))
def fdS (v : Vt) (m : Option Ls) (x : Ls) : Option Ls := if decide (x.age < 3600) && (isV v x && (decide (x.id = v.i) && (!m.isSome || decide (x.adv < (m.getD zLs).adv)))) then some x else m
def findL (l : List Ls) (v : Vt) : Option Ls := l.foldl (fdS v) none
theorem fold_take {α β : Type} (f : β → α → β) (b : β) {l : List α} {j : Nat} {x : α} (h : l[j]? = some x) : (l.take (j + 1)).foldl f b = f ((l.take j).foldl f b) x := by
  rw [take_snoc h, List.foldl_append]; rfl
abbrev hLs (x : Ls) : Option (TypeId × List AV) := some (51, x.cells)
abbrev zC : List AV := [I 0, I 0, I 0, I 0, I 0, I 0, I 0, I 0, .r (.v (.slice none 0 0)), I 0, .r (.v (.slice none 0 0)), .r (.v (.slice none 0 0))]
theorem isV_eq (v : Vt) (x : Ls) : isV v x = ((eqB v.k 1 && (eqB x.kind 1 && eqB x.id x.adv)) || (eqB v.k 2 && eqB x.kind 2)) := by
  unfold isV
  simp only [eqB_eq, Bool.beq_eq_decide_eq]
theorem fdS_eq (v : Vt) (m : Option Ls) (x : Ls) : fdS v m x = match ltB x.age 3600 && (isV v x && (eqB x.id v.i && (notB m.isSome || ltB x.adv (m.getD zLs).adv))) with
    | true => some x
    | false => m := by
  unfold fdS
  simp only [eqB_eq, ltB_eq, notB_eq, Bool.beq_eq_decide_eq]
  cases (decide (x.age < 3600) && (isV v x && (decide (x.id = v.i) && (!m.isSome || decide (x.adv < (m.getD zLs).adv))))) <;> rfl
abbrev hHd (x : Ls) : Option (TypeId × List AV) := some (48, [I x.age, I x.kind, I x.id, I x.adv, I x.seq, I x.sum, I x.len])
theorem stLL_K : ∀ (l : List Lk), stLL (l.map Lk.row) = true
  | [] => rfl
  | c :: l => by
    show (stL (Lk.row c) && stLL (l.map Lk.row)) = true
    rw [stLL_K l]; rfl
theorem stLL_N : ∀ (l : List Int), stLL (l.map nRow) = true
  | [] => rfl
  | c :: l => by
    show (stL (nRow c) && stLL (l.map nRow)) = true
    rw [stLL_N l]; rfl
theorem stLL_E : ∀ (l : List Eg), stLL (l.map Eg.row) = true
  | [] => rfl
  | c :: l => by
    show (stL (Eg.row c) && stLL (l.map Eg.row)) = true
    rw [stLL_E l]; rfl
theorem stS_nil : StS [] := fun e he s hs => by cases he
theorem st_ls (x : Ls) (b : Bool) : stA (.tup [x.av, Bo b]) = true := by
  show ((stLL (x.lk.map Lk.row) && (true && (stLL (x.rt.map nRow) && (stLL (x.vt.map Vt.row) && true)))) && true) = true
  rw [stLL_K, stLL_N, stLL_V]; rfl
theorem pFd {x : Ls} {b : Bool} : ∀ r H1 S1, (H1 = [] ∧ r = .tup [x.av, Bo b] ∧ S1 = []) → stA r = true ∧ StH H1 ∧ StS S1 := by
  rintro r H S ⟨rfl, rfl, rfl⟩
  exact ⟨st_ls x b, StH.nil, stS_nil⟩
theorem find_ok (l : List Ls) (v : Vt) (hl : l.length < 1000000) : FnR Try.prog 45 [fsL l, v.av] (fun r S => r = .tup [((findL l v).getD zLs).av, Bo (findL l v).isSome] ∧ S = []) := by
  refine fnR_intro (T := TT) (n := 79) Try.func45 rfl rfl rfl (fun w Z => ?_)
  (repeat (first | refine r_end ?_ | (refine r_op ?_; first | refine r_pure hT rfl rfl rfl rfl rfl rfl ?_ | refine r_box rfl rfl rfl rfl rfl rfl rfl rfl rfl ?_ | refine r_store hT rfl rfl rfl rfl rfl rfl rfl rfl rfl rfl ?_ | refine r_alloc hT rfl rfl rfl rfl rfl rfl rfl rfl rfl ?_) | refine gi_seq ?_ | refine gi_plain ?_ | refine gi_block ?_))
  refine gi_thaw 0 rfl ?_
  refine gi_nilH 2 8 4 rfl rfl ?_
  refine gi_nilH 2 10 1 rfl rfl ?_
  refine gi_nilH 2 11 2 rfl rfl ?_
  refine gi_loop (σ := Nat) (fun j => [(8, I j), (7, Bo ((l.take j).foldl (fdS v) none).isSome), (6, .box 2 0), (4, .box 1 0), (3, .box 0 0), (0, .r (.rs 12 (l.map Ls.row)))]) (fun j => [hV v, some (51, zC), hLs (((l.take j).foldl (fdS v) none).getD zLs)]) (fun _ => []) (fun j => j ≤ l.length) (fun j => l.length - j) 0 (Nat.zero_le _) ⟨rfl, rfl, rfl, rfl, rfl, rfl, trivial⟩ ⟨rfl, rfl, rfl, trivial⟩ trivial (fun _ => rfl) (fun j hj next => ?_)
  have hj : j ≤ l.length := hj
  (repeat (first | refine r_end ?_ | (refine r_op ?_; refine r_pure hT rfl rfl rfl rfl rfl rfl ?_) | refine gi_seq ?_ | refine gi_plain ?_))
  refine gi_lt (q := ((l.map Ls.row).length : Int)) rfl (fun h3 => ?_) (fun h3 => ?_)
  · rw [List.length_map] at h3
    have hjl : j < l.length := by omega
    obtain ⟨x, hx⟩ : ∃ x, l[j]? = some x := ⟨_, List.getElem?_eq_getElem hjl⟩
    have hft := fold_take (fdS v) none hx
    obtain ⟨m, hm⟩ : ∃ m, m = (l.take j).foldl (fdS v) none := ⟨_, rfl⟩
    rw [← hm] at hft
    rw [← hm]
    (repeat (first | (refine r_op ?_; refine r_pure hT rfl rfl rfl rfl rfl rfl ?_) | refine gi_seq ?_ | refine gi_plain ?_ | refine gi_skip ?_ | refine gi_block ?_))
    refine r_idx (row := x.row) hT rfl rfl rfl rfl rfl rfl rfl rfl rfl rfl rfl rfl (by omega) (by simp [hx]) ?_
    (repeat (first | refine r_end ?_ | (refine r_op ?_; first | refine r_pure hT rfl rfl rfl rfl rfl rfl ?_ | refine r_load hT rfl rfl rfl rfl rfl rfl rfl rfl rfl ?_ | refine r_store hT rfl rfl rfl rfl rfl rfl rfl rfl rfl rfl ?_ | refine r_alloc hT rfl rfl rfl rfl rfl rfl rfl rfl rfl ?_) | refine gi_seq ?_))
    apply gi_cut (σ := Unit) (fun _ => [(10, Bo (isV v x)), (9, .box 3 0), (8, I j), (7, Bo m.isSome), (6, .box 2 0), (4, .box 1 0), (3, .box 0 0), (0, .r (.rs 12 (l.map Ls.row)))]) (fun _ => [hV v, some (51, zC), hLs (m.getD zLs), hHd x]) (fun _ => []) (fun _ => True) (fun _ => rfl)
    case first =>
      intro fin
      have hiv := isV_eq v x
      (repeat (first | (refine r_op ?_; first | refine r_pure hT rfl rfl rfl rfl rfl rfl ?_ | refine r_load hT rfl rfl rfl rfl rfl rfl rfl rfl rfl ?_) | refine gi_plain ?_))
      refine r_case (d := 26) rfl (fun c1 => ?_) (fun c1 => ?_)
      · (repeat ((refine r_op ?_; first | refine r_pure hT rfl rfl rfl rfl rfl rfl ?_ | refine r_load hT rfl rfl rfl rfl rfl rfl rfl rfl rfl ?_)))
        refine r_case (d := 31) rfl (fun c2 => ?_) (fun c2 => ?_)
        · (repeat ((refine r_op ?_; first | refine r_pure hT rfl rfl rfl rfl rfl rfl ?_ | refine r_load hT rfl rfl rfl rfl rfl rfl rfl rfl rfl ?_)))
          refine r_case (d := 38) rfl (fun c3 => ?_) (fun c3 => ?_)
          · rw [c1, c2, c3] at hiv
            (repeat (first | refine r_end ?_ | (refine r_op ?_; first | refine r_pure hT rfl rfl rfl rfl rfl rfl ?_ | refine r_off rfl rfl rfl rfl rfl ?_) | refine gi_seq ?_))
            exact fin () _ _ _ trivial ⟨by rw [hiv]; rfl, rfl, rfl, rfl, rfl, rfl, rfl, rfl, trivial⟩ ⟨rfl, rfl, rfl, rfl, trivial⟩ trivial
          · (repeat ((refine r_op ?_; first | refine r_pure hT rfl rfl rfl rfl rfl rfl ?_ | refine r_load hT rfl rfl rfl rfl rfl rfl rfl rfl rfl ?_)))
            refine r_case (d := 42) rfl (fun c4 => ?_) (fun c4 => ?_)
            · rw [c1, c2, c3, c4] at hiv
              (repeat (first | refine r_end ?_ | (refine r_op ?_; first | refine r_pure hT rfl rfl rfl rfl rfl rfl ?_ | refine r_load hT rfl rfl rfl rfl rfl rfl rfl rfl rfl ?_) | refine gi_seq ?_))
              exact fin () _ _ _ trivial ⟨by rw [hiv]; rfl, rfl, rfl, rfl, rfl, rfl, rfl, rfl, trivial⟩ ⟨rfl, rfl, rfl, rfl, trivial⟩ trivial
            · rw [c1, c2, c3, c4] at hiv
              (repeat (first | refine r_end ?_ | (refine r_op ?_; first | refine r_pure hT rfl rfl rfl rfl rfl rfl ?_ | refine r_off rfl rfl rfl rfl rfl ?_) | refine gi_seq ?_))
              exact fin () _ _ _ trivial ⟨by rw [hiv]; rfl, rfl, rfl, rfl, rfl, rfl, rfl, rfl, trivial⟩ ⟨rfl, rfl, rfl, rfl, trivial⟩ trivial
        · (repeat ((refine r_op ?_; first | refine r_pure hT rfl rfl rfl rfl rfl rfl ?_ | refine r_load hT rfl rfl rfl rfl rfl rfl rfl rfl rfl ?_ | refine r_off rfl rfl rfl rfl rfl ?_)))
          refine r_case (d := 42) rfl (fun c4 => ?_) (fun c4 => ?_)
          · rw [c1, c2, c4] at hiv
            (repeat (first | refine r_end ?_ | (refine r_op ?_; first | refine r_pure hT rfl rfl rfl rfl rfl rfl ?_ | refine r_load hT rfl rfl rfl rfl rfl rfl rfl rfl rfl ?_) | refine gi_seq ?_))
            exact fin () _ _ _ trivial ⟨by rw [hiv]; rfl, rfl, rfl, rfl, rfl, rfl, rfl, rfl, trivial⟩ ⟨rfl, rfl, rfl, rfl, trivial⟩ trivial
          · rw [c1, c2, c4] at hiv
            (repeat (first | refine r_end ?_ | (refine r_op ?_; first | refine r_pure hT rfl rfl rfl rfl rfl rfl ?_ | refine r_off rfl rfl rfl rfl rfl ?_) | refine gi_seq ?_))
            exact fin () _ _ _ trivial ⟨by rw [hiv]; rfl, rfl, rfl, rfl, rfl, rfl, rfl, rfl, trivial⟩ ⟨rfl, rfl, rfl, rfl, trivial⟩ trivial
      · (repeat ((refine r_op ?_; first | refine r_pure hT rfl rfl rfl rfl rfl rfl ?_ | refine r_load hT rfl rfl rfl rfl rfl rfl rfl rfl rfl ?_ | refine r_off rfl rfl rfl rfl rfl ?_)))
        refine r_case (d := 42) rfl (fun c4 => ?_) (fun c4 => ?_)
        · rw [c1, c4] at hiv
          (repeat (first | refine r_end ?_ | (refine r_op ?_; first | refine r_pure hT rfl rfl rfl rfl rfl rfl ?_ | refine r_load hT rfl rfl rfl rfl rfl rfl rfl rfl rfl ?_) | refine gi_seq ?_))
          exact fin () _ _ _ trivial ⟨by rw [hiv]; rfl, rfl, rfl, rfl, rfl, rfl, rfl, rfl, trivial⟩ ⟨rfl, rfl, rfl, rfl, trivial⟩ trivial
        · rw [c1, c4] at hiv
          (repeat (first | refine r_end ?_ | (refine r_op ?_; first | refine r_pure hT rfl rfl rfl rfl rfl rfl ?_ | refine r_off rfl rfl rfl rfl rfl ?_) | refine gi_seq ?_))
          exact fin () _ _ _ trivial ⟨by rw [hiv]; rfl, rfl, rfl, rfl, rfl, rfl, rfl, rfl, trivial⟩ ⟨rfl, rfl, rfl, rfl, trivial⟩ trivial
    case after =>
      intro _ _
      have hfd := fdS_eq v m x
      have hnext : ∀ m', fdS v m x = m' → ∀ F1 H1 S1, SubF [(8, I (wr .i64 ((j : Int) + 1))), (7, Bo m'.isSome), (6, .box 2 0), (4, .box 1 0), (3, .box 0 0), (0, .r (.rs 12 (l.map Ls.row)))] F1 → SubH [hV v, some (51, zC), hLs (m'.getD zLs)] H1 → SubS [] S1 → GI _ _ F1 H1 S1 := fun m' hm' F1 H1 S1 hF hH hS => by
        refine next (j + 1) F1 H1 S1 hjl (by omega) ?_ (by rw [hft, hm']; exact hH) hS
        rw [hft, hm']
        rw [wr_i64 (by omega) (by omega)] at hF
        simpa using hF
      have hno : fdS v m x = m → ∀ F1 H1 S1, SubF [(8, I (wr .i64 ((j : Int) + 1))), (7, Bo m.isSome), (6, .box 2 0), (4, .box 1 0), (3, .box 0 0), (0, .r (.rs 12 (l.map Ls.row)))] F1 → SubH [hV v, some (51, zC), hLs (m.getD zLs)] H1 → SubS [] S1 → GI _ _ F1 H1 S1 := hnext m
      (repeat (first | (refine r_op ?_; first | refine r_pure hT rfl rfl rfl rfl rfl rfl ?_ | refine r_load hT rfl rfl rfl rfl rfl rfl rfl rfl rfl ?_) | refine gi_plain ?_))
      refine r_case (d := 51) rfl (fun d1 => ?_) (fun d1 => ?_)
      · (repeat ((refine r_op ?_; refine r_pure hT rfl rfl rfl rfl rfl rfl ?_)))
        refine r_case (d := 54) rfl (fun d2 => ?_) (fun d2 => ?_)
        · (repeat ((refine r_op ?_; first | refine r_pure hT rfl rfl rfl rfl rfl rfl ?_ | refine r_load hT rfl rfl rfl rfl rfl rfl rfl rfl rfl ?_)))
          refine r_case (d := 61) rfl (fun d3 => ?_) (fun d3 => ?_)
          · (repeat ((refine r_op ?_; refine r_pure hT rfl rfl rfl rfl rfl rfl ?_)))
            refine r_case (d := 64) rfl (fun d4 => ?_) (fun d4 => ?_)
            · rw [d1, d2, d3, d4] at hfd
              (repeat (first | refine r_end ?_ | (refine r_op ?_; first | refine r_pure hT rfl rfl rfl rfl rfl rfl ?_ | refine r_off rfl rfl rfl rfl rfl ?_) | refine gi_seq ?_ | refine gi_plain ?_ | (refine gi_cnd ?_; first | refine gi_true rfl ?_ | refine gi_false rfl ?_)))
              refine r_idx (row := x.row) hT rfl rfl rfl rfl rfl rfl rfl rfl rfl rfl rfl rfl (by omega) (by simp [hx]) ?_
              (repeat (first | refine r_end ?_ | (refine r_op ?_; first | refine r_pure hT rfl rfl rfl rfl rfl rfl ?_ | refine r_load hT rfl rfl rfl rfl rfl rfl rfl rfl rfl ?_ | refine r_store hT rfl rfl rfl rfl rfl rfl rfl rfl rfl rfl ?_) | refine gi_plain ?_ | refine gi_inBlock ?_))
              exact hnext (some x) (hfd.trans rfl) _ _ _ ⟨rfl, rfl, rfl, rfl, rfl, rfl, trivial⟩ ⟨rfl, rfl, rfl, trivial⟩ trivial
            · (repeat (first | refine r_end ?_ | (refine r_op ?_; first | refine r_pure hT rfl rfl rfl rfl rfl rfl ?_ | refine r_load hT rfl rfl rfl rfl rfl rfl rfl rfl rfl ?_)))
              refine gi_cond rfl (fun d5 => ?_) (fun d5 => ?_)
              · rw [d1, d2, d3, d4, d5] at hfd
                (repeat (first | (refine r_op ?_; refine r_pure hT rfl rfl rfl rfl rfl rfl ?_) | refine gi_seq ?_ | refine gi_plain ?_))
                refine r_idx (row := x.row) hT rfl rfl rfl rfl rfl rfl rfl rfl rfl rfl rfl rfl (by omega) (by simp [hx]) ?_
                (repeat (first | refine r_end ?_ | (refine r_op ?_; first | refine r_pure hT rfl rfl rfl rfl rfl rfl ?_ | refine r_load hT rfl rfl rfl rfl rfl rfl rfl rfl rfl ?_ | refine r_store hT rfl rfl rfl rfl rfl rfl rfl rfl rfl rfl ?_) | refine gi_plain ?_ | refine gi_inBlock ?_))
                exact hnext (some x) (hfd.trans rfl) _ _ _ ⟨rfl, rfl, rfl, rfl, rfl, rfl, trivial⟩ ⟨rfl, rfl, rfl, trivial⟩ trivial
              · rw [d1, d2, d3, d4, d5] at hfd
                (repeat (first | refine r_end ?_ | (refine r_op ?_; refine r_pure hT rfl rfl rfl rfl rfl rfl ?_) | refine gi_plain ?_ | refine gi_skip ?_ | refine gi_inBlock ?_))
                exact hno (hfd.trans rfl) _ _ _ ⟨rfl, rfl, rfl, rfl, rfl, rfl, trivial⟩ ⟨rfl, rfl, rfl, trivial⟩ trivial
          · rw [d1, d2, d3] at hfd
            (repeat (first | refine r_end ?_ | (refine r_op ?_; first | refine r_pure hT rfl rfl rfl rfl rfl rfl ?_ | refine r_off rfl rfl rfl rfl rfl ?_) | refine gi_plain ?_ | refine gi_skip ?_ | refine gi_inBlock ?_ | (refine gi_cnd ?_; first | refine gi_true rfl ?_ | refine gi_false rfl ?_)))
            exact hno (hfd.trans rfl) _ _ _ ⟨rfl, rfl, rfl, rfl, rfl, rfl, trivial⟩ ⟨rfl, rfl, rfl, trivial⟩ trivial
        · rw [d1, d2] at hfd
          (repeat (first | refine r_end ?_ | (refine r_op ?_; first | refine r_pure hT rfl rfl rfl rfl rfl rfl ?_ | refine r_off rfl rfl rfl rfl rfl ?_) | refine gi_plain ?_ | refine gi_skip ?_ | refine gi_inBlock ?_ | (refine gi_cnd ?_; first | refine gi_true rfl ?_ | refine gi_false rfl ?_)))
          exact hno (hfd.trans rfl) _ _ _ ⟨rfl, rfl, rfl, rfl, rfl, rfl, trivial⟩ ⟨rfl, rfl, rfl, trivial⟩ trivial
      · rw [d1] at hfd
        (repeat (first | refine r_end ?_ | (refine r_op ?_; first | refine r_pure hT rfl rfl rfl rfl rfl rfl ?_ | refine r_off rfl rfl rfl rfl rfl ?_) | refine gi_plain ?_ | refine gi_skip ?_ | refine gi_inBlock ?_ | (refine gi_cnd ?_; first | refine gi_true rfl ?_ | refine gi_false rfl ?_)))
        exact hno (hfd.trans rfl) _ _ _ ⟨rfl, rfl, rfl, rfl, rfl, rfl, trivial⟩ ⟨rfl, rfl, rfl, trivial⟩ trivial
  · rw [List.length_map] at h3
    have hjl : j = l.length := by omega
    subst hjl
    rw [List.take_length]
    (repeat (first | refine r_end ?_ | (refine r_op ?_; first | refine r_pure hT rfl rfl rfl rfl rfl rfl ?_ | refine r_load hT rfl rfl rfl rfl rfl rfl rfl rfl rfl ?_ | refine r_store hT rfl rfl rfl rfl rfl rfl rfl rfl rfl rfl ?_) | refine gi_seq ?_ | refine gi_plain ?_ | refine gi_exit rfl ?_))
    refine gi_retW hT Try.func45 rfl rfl [] rfl rfl rfl rfl ?_
    exact ⟨rfl, rfl⟩
end Go.Proofs.Ytmocggibcniggaa.Kt
