/- Part of the proofs of this seat's statements: what the functions compute. No condition. -/
import Derived.Test.YtmocggibcniggaaC23P
set_option linter.unusedSimpArgs false
set_option linter.unusedVariables false
namespace Go.Proofs.Ytmocggibcniggaa.Kt
open Go Kw Go.Proofs
attribute [local irreducible] Kw.GI Kw.GR Kw.FnR Kw.FnX
set_option maxHeartbeats 8000000
set_option maxRecDepth 100000
/-! ### the reference's Members: some short list -/
abbrev RSome : AV → Sp → Prop := fun r S => (∃ b, r = Bo b) ∧ S = []
theorem pSome : ∀ r S1, ((∃ b, r = Bo b) ∧ S1 = []) → plainA r = true ∧ PlainS S1 := by
  rintro r S ⟨⟨b, rfl⟩, rfl⟩
  exact ⟨rfl, PlainS.nil⟩
theorem network_ok (l : List Ls) (id adv : Int) (hl : l.length < 1000000) : FnR Try.prog 51 [.r (.rs 12 (l.map Ls.row)), I id, I adv] RSome := by
  refine fnR_intro (T := TT) (n := 40) Try.func51 rfl rfl rfl (fun w Z => ?_)
  (repeat (first | refine r_end ?_ | (refine r_op ?_; refine r_pure hT rfl rfl rfl rfl rfl rfl ?_) | refine gi_seq ?_ | refine gi_plain ?_ | refine gi_block ?_))
  refine gi_loop (σ := Nat) (fun j => [(7, I j), (0, .r (.rs 12 (l.map Ls.row))), (1, I id), (2, I adv)]) (fun _ => []) (fun _ => []) (fun j => j ≤ l.length) (fun j => l.length - j) 0 (Nat.zero_le _) ⟨rfl, rfl, rfl, rfl, trivial⟩ trivial trivial (fun _ => rfl) (fun j hj next => ?_)
  have hj : j ≤ l.length := hj
  (repeat (first | refine r_end ?_ | (refine r_op ?_; refine r_pure hT rfl rfl rfl rfl rfl rfl ?_) | refine gi_seq ?_ | refine gi_plain ?_))
  refine gi_lt (q := ((l.map Ls.row).length : Int)) rfl (fun h3 => ?_) (fun h3 => ?_)
  · rw [List.length_map] at h3
    have hjl : j < l.length := by omega
    obtain ⟨x, hx⟩ : ∃ x, l[j]? = some x := ⟨_, List.getElem?_eq_getElem hjl⟩
    have no : ∀ F1 H1 S1, SubF [(7, I (wr .i64 ((j : Int) + 1))), (0, .r (.rs 12 (l.map Ls.row))), (1, I id), (2, I adv)] F1 → SubH [] H1 → SubS [] S1 → GI _ _ F1 H1 S1 := fun F1 H1 S1 hF hH hS => by
      refine next (j + 1) F1 H1 S1 hjl (by omega) ?_ hH hS
      rw [wr_i64 (by omega) (by omega)] at hF
      simpa using hF
    (repeat (first | (refine r_op ?_; refine r_pure hT rfl rfl rfl rfl rfl rfl ?_) | refine gi_seq ?_ | refine gi_plain ?_ | refine gi_skip ?_ | refine gi_block ?_))
    refine r_idx (row := x.row) hT rfl rfl rfl rfl rfl rfl rfl rfl rfl rfl rfl rfl (by omega) (by simp [hx]) ?_
    (repeat (first | refine r_end ?_ | (refine r_op ?_; first | refine r_pure hT rfl rfl rfl rfl rfl rfl ?_ | refine r_load hT rfl rfl rfl rfl rfl rfl rfl rfl rfl ?_ | refine r_store hT rfl rfl rfl rfl rfl rfl rfl rfl rfl rfl ?_ | refine r_alloc hT rfl rfl rfl rfl rfl rfl rfl rfl rfl ?_) | refine gi_seq ?_ | refine gi_plain ?_))
    refine r_case (d := 23) rfl (fun c1 => ?_) (fun c1 => ?_)
    · (repeat ((refine r_op ?_; first | refine r_pure hT rfl rfl rfl rfl rfl rfl ?_ | refine r_load hT rfl rfl rfl rfl rfl rfl rfl rfl rfl ?_)))
      refine r_case (d := 28) rfl (fun c2 => ?_) (fun c2 => ?_)
      · (repeat ((refine r_op ?_; first | refine r_pure hT rfl rfl rfl rfl rfl rfl ?_ | refine r_load hT rfl rfl rfl rfl rfl rfl rfl rfl rfl ?_)))
        refine r_case (d := 34) rfl (fun c3 => ?_) (fun c3 => ?_)
        · (repeat (first | refine r_end ?_ | (refine r_op ?_; first | refine r_pure hT rfl rfl rfl rfl rfl rfl ?_ | refine r_load hT rfl rfl rfl rfl rfl rfl rfl rfl rfl ?_)))
          refine gi_cond rfl (fun c4 => ?_) (fun c4 => ?_)
          · (repeat (first | refine r_end ?_ | (refine r_op ?_; refine r_pure hT rfl rfl rfl rfl rfl rfl ?_) | refine gi_seq ?_ | refine gi_plain ?_))
            refine gi_retW hT Try.func51 rfl rfl [] rfl rfl rfl rfl ?_
            exact ⟨⟨_, rfl⟩, rfl⟩
          · (repeat (first | refine r_end ?_ | (refine r_op ?_; refine r_pure hT rfl rfl rfl rfl rfl rfl ?_) | refine gi_plain ?_ | refine gi_skip ?_ | refine gi_inBlock ?_))
            exact no _ _ _ ⟨rfl, rfl, rfl, rfl, trivial⟩ trivial trivial
        · (repeat (first | refine r_end ?_ | (refine r_op ?_; first | refine r_pure hT rfl rfl rfl rfl rfl rfl ?_ | refine r_off rfl rfl rfl rfl rfl ?_) | refine gi_plain ?_ | refine gi_skip ?_ | refine gi_inBlock ?_ | (refine gi_cnd ?_; first | refine gi_true rfl ?_ | refine gi_false rfl ?_)))
          exact no _ _ _ ⟨rfl, rfl, rfl, rfl, trivial⟩ trivial trivial
      · (repeat (first | refine r_end ?_ | (refine r_op ?_; first | refine r_pure hT rfl rfl rfl rfl rfl rfl ?_ | refine r_off rfl rfl rfl rfl rfl ?_) | refine gi_plain ?_ | refine gi_skip ?_ | refine gi_inBlock ?_ | (refine gi_cnd ?_; first | refine gi_true rfl ?_ | refine gi_false rfl ?_)))
        exact no _ _ _ ⟨rfl, rfl, rfl, rfl, trivial⟩ trivial trivial
    · (repeat (first | refine r_end ?_ | (refine r_op ?_; first | refine r_pure hT rfl rfl rfl rfl rfl rfl ?_ | refine r_off rfl rfl rfl rfl rfl ?_) | refine gi_plain ?_ | refine gi_skip ?_ | refine gi_inBlock ?_ | (refine gi_cnd ?_; first | refine gi_true rfl ?_ | refine gi_false rfl ?_)))
      exact no _ _ _ ⟨rfl, rfl, rfl, rfl, trivial⟩ trivial trivial
  · (repeat (first | refine r_end ?_ | (refine r_op ?_; refine r_pure hT rfl rfl rfl rfl rfl rfl ?_) | refine gi_seq ?_ | refine gi_plain ?_ | refine gi_exit rfl ?_))
    refine gi_retW hT Try.func51 rfl rfl [] rfl rfl rfl rfl ?_
    exact ⟨⟨_, rfl⟩, rfl⟩
abbrev RMem (N : Nat) : AV → Sp → Prop := fun r S => r = .sl 0 ∧ ∃ o, S = [eV o] ∧ o.length ≤ N
theorem pMem {N : Nat} : ∀ r S1, RMem N r S1 → plainA r = true ∧ PlainS S1 := by
  rintro r S ⟨rfl, o, rfl, _⟩
  refine ⟨rfl, fun e he s hs => ?_⟩
  rw [List.mem_singleton] at he
  subst he
  cases hs
  exact ⟨rfl, pl_rows (fun x c hc => by simp only [List.mem_cons, List.not_mem_nil, or_false] at hc; rcases hc with rfl | rfl <;> exact ⟨_, rfl⟩) o⟩
theorem MembersF (l : List Ls) (g : Int) (hl : l.length ≤ 1000) (hv : ∀ x ∈ l, x.vt.length ≤ 70) : FnR Try.prog 20 [fsL l, I g] (RMem 70000) := by
  refine fnR_intro (T := TT) (n := 80) Try.func20 rfl rfl rfl (fun w Z => ?_)
  (repeat (first | refine r_end ?_ | (refine r_op ?_; refine r_pure hT rfl rfl rfl rfl rfl rfl ?_) | refine gi_seq ?_ | refine gi_plain ?_ | refine gi_block ?_))
  refine gi_thaw 0 rfl ?_
  refine gi_adopt (e := 34) (sz := 2) 5 rfl ?_
  refine gi_loop (σ := Nat × List Vt) (fun s => [(6, I (s.1 : Int)), (5, .sl 0), (0, .r (.rs 12 (l.map Ls.row))), (1, I g)]) (fun _ => []) (fun s => [eV s.2]) (fun s => s.1 ≤ l.length ∧ s.2.length ≤ 70 * s.1) (fun s => l.length - s.1) (0, []) ⟨Nat.zero_le _, Nat.zero_le _⟩ ⟨rfl, rfl, rfl, rfl, trivial⟩ trivial ⟨rfl, trivial⟩ (fun _ => rfl) (fun s hs next => ?_)
  obtain ⟨j, m⟩ := s
  obtain ⟨hj, hm⟩ := hs
  simp only at hj hm
  (repeat (first | refine r_end ?_ | (refine r_op ?_; refine r_pure hT rfl rfl rfl rfl rfl rfl ?_) | refine gi_seq ?_ | refine gi_plain ?_))
  refine gi_lt (p := (j : Int)) (q := ((l.map Ls.row).length : Int)) rfl (fun h3 => ?_) (fun h3 => ?_)
  · rw [List.length_map] at h3
    have hjl : j < l.length := by omega
    obtain ⟨x, hx⟩ : ∃ x, l[j]? = some x := ⟨_, List.getElem?_eq_getElem hjl⟩
    have hxv := hv x (List.mem_of_getElem? hx)
    have go : ∀ m', m'.length ≤ 70 * j + 70 → ∀ F1 H1 S1, SubF [(6, I (wr .i64 ((j : Int) + 1))), (5, .sl 0), (0, .r (.rs 12 (l.map Ls.row))), (1, I g)] F1 → SubH [] H1 → SubS [eV m'] S1 → GI _ _ F1 H1 S1 := fun m' hm' F1 H1 S1 hF hH hS => by
      refine next (j + 1, m') F1 H1 S1 ⟨hjl, by simp only; omega⟩ (by simp only; omega) ?_ hH hS
      rw [wr_i64 (by omega) (by omega)] at hF
      simpa using hF
    clear next
    (repeat (first | (refine r_op ?_; refine r_pure hT rfl rfl rfl rfl rfl rfl ?_) | refine gi_seq ?_ | refine gi_plain ?_ | refine gi_skip ?_ | refine gi_block ?_))
    refine r_idx (row := x.row) hT rfl rfl rfl rfl rfl rfl rfl rfl rfl rfl rfl rfl (by show (0 : Int) ≤ (j : Int); omega) (by simp [hx]) ?_
    (repeat (first | refine r_end ?_ | (refine r_op ?_; first | refine r_pure hT rfl rfl rfl rfl rfl rfl ?_ | refine r_load hT rfl rfl rfl rfl rfl rfl rfl rfl rfl ?_ | refine r_store hT rfl rfl rfl rfl rfl rfl rfl rfl rfl rfl ?_ | refine r_alloc hT rfl rfl rfl rfl rfl rfl rfl rfl rfl ?_) | refine gi_seq ?_))
    apply gi_cut (σ := Unit) (fun _ => [(7, .box 0 0), (6, I (j : Int)), (5, .sl 0), (0, .r (.rs 12 (l.map Ls.row))), (1, I g)]) (fun _ => [hHd x]) (fun _ => [eV m]) (fun _ => True) (fun _ => rfl)
    case first =>
      intro fin
      (repeat (first | (refine r_op ?_; first | refine r_pure hT rfl rfl rfl rfl rfl rfl ?_ | refine r_load hT rfl rfl rfl rfl rfl rfl rfl rfl rfl ?_) | refine gi_plain ?_))
      refine r_case (d := 24) rfl (fun c1 => ?_) (fun c1 => ?_)
      · (repeat (first | refine r_end ?_ | (refine r_op ?_; first | refine r_pure hT rfl rfl rfl rfl rfl rfl ?_ | refine r_off rfl rfl rfl rfl rfl ?_) | refine gi_plain ?_ | refine gi_exit rfl ?_ | (refine gi_cnd ?_; first | refine gi_true rfl ?_ | refine gi_false rfl ?_)))
        exact go m (by omega) _ _ _ ⟨rfl, rfl, rfl, rfl, trivial⟩ trivial ⟨rfl, trivial⟩
      · (repeat ((refine r_op ?_; first | refine r_pure hT rfl rfl rfl rfl rfl rfl ?_ | refine r_load hT rfl rfl rfl rfl rfl rfl rfl rfl rfl ?_)))
        refine r_case (d := 29) rfl (fun c2 => ?_) (fun c2 => ?_)
        · (repeat (first | refine r_end ?_ | (refine r_op ?_; first | refine r_pure hT rfl rfl rfl rfl rfl rfl ?_ | refine r_off rfl rfl rfl rfl rfl ?_) | refine gi_plain ?_ | refine gi_exit rfl ?_ | (refine gi_cnd ?_; first | refine gi_true rfl ?_ | refine gi_false rfl ?_)))
          exact go m (by omega) _ _ _ ⟨rfl, rfl, rfl, rfl, trivial⟩ trivial ⟨rfl, trivial⟩
        · (repeat (first | refine r_end ?_ | (refine r_op ?_; first | refine r_pure hT rfl rfl rfl rfl rfl rfl ?_ | refine r_load hT rfl rfl rfl rfl rfl rfl rfl rfl rfl ?_)))
          refine gi_cond rfl (fun c3 => ?_) (fun c3 => ?_)
          · (repeat (first | refine r_end ?_ | (refine r_op ?_; refine r_pure hT rfl rfl rfl rfl rfl rfl ?_) | refine gi_plain ?_ | refine gi_exit rfl ?_))
            exact go m (by omega) _ _ _ ⟨rfl, rfl, rfl, rfl, trivial⟩ trivial ⟨rfl, trivial⟩
          · (repeat (first | refine gi_seq ?_ | refine gi_skip ?_))
            exact fin () _ _ _ trivial ⟨rfl, rfl, rfl, rfl, rfl, trivial⟩ ⟨rfl, trivial⟩ ⟨rfl, trivial⟩
    case after =>
      intro _ _
      (repeat (first | refine r_end ?_ | (refine r_op ?_; refine r_pure hT rfl rfl rfl rfl rfl rfl ?_) | refine gi_plain ?_ | refine gi_block ?_))
      refine gi_loop (σ := Nat × List Vt) (fun s => [(8, I (s.1 : Int)), (7, .box 0 0), (6, I (j : Int)), (5, .sl 0), (0, .r (.rs 12 (l.map Ls.row))), (1, I g)]) (fun _ => [hHd x]) (fun s => [eV s.2]) (fun s => s.1 ≤ x.vt.length ∧ s.2.length ≤ 70 * j + s.1) (fun s => x.vt.length - s.1) (0, m) ⟨Nat.zero_le _, by simp only; omega⟩ ⟨rfl, rfl, rfl, rfl, rfl, rfl, trivial⟩ ⟨rfl, trivial⟩ ⟨rfl, trivial⟩ (fun _ => rfl) (fun s hs next => ?_)
      obtain ⟨t, m'⟩ := s
      obtain ⟨ht, hm'⟩ := hs
      simp only at ht hm'
      (repeat (first | (refine r_op ?_; refine r_pure hT rfl rfl rfl rfl rfl rfl ?_) | refine gi_seq ?_ | refine gi_plain ?_))
      refine r_idx (row := x.row) hT rfl rfl rfl rfl rfl rfl rfl rfl rfl rfl rfl rfl (by show (0 : Int) ≤ (j : Int); omega) (by simp [hx]) ?_
      (repeat (first | refine r_end ?_ | (refine r_op ?_; first | refine r_pure hT rfl rfl rfl rfl rfl rfl ?_ | refine r_load hT rfl rfl rfl rfl rfl rfl rfl rfl rfl ?_)))
      refine gi_lt (p := (t : Int)) (q := ((x.vt.map Vt.row).length : Int)) rfl (fun h5 => ?_) (fun h5 => ?_)
      · rw [List.length_map] at h5
        have htl : t < x.vt.length := by omega
        obtain ⟨v, hvt⟩ : ∃ v, x.vt[t]? = some v := ⟨_, List.getElem?_eq_getElem htl⟩
        have on : ∀ o, o.length ≤ 70 * j + t + 1 → ∀ F1 H1 S1, SubF [(8, I (wr .i64 ((t : Int) + 1))), (7, .box 0 0), (6, I (j : Int)), (5, .sl 0), (0, .r (.rs 12 (l.map Ls.row))), (1, I g)] F1 → SubH [hHd x] H1 → SubS [eV o] S1 → GI _ _ F1 H1 S1 := fun o ho F1 H1 S1 hF hH hS => by
          refine next (t + 1, o) F1 H1 S1 ⟨htl, by simp only; omega⟩ (by simp only; omega) ?_ hH hS
          rw [wr_i64 (by omega) (by omega)] at hF
          simpa using hF
        clear next
        (repeat (first | (refine r_op ?_; refine r_pure hT rfl rfl rfl rfl rfl rfl ?_) | refine gi_seq ?_ | refine gi_plain ?_ | refine gi_skip ?_ | refine gi_block ?_))
        refine r_idx (row := x.row) hT rfl rfl rfl rfl rfl rfl rfl rfl rfl rfl rfl rfl (by show (0 : Int) ≤ (j : Int); omega) (by simp [hx]) ?_
        (repeat ((refine r_op ?_; first | refine r_pure hT rfl rfl rfl rfl rfl rfl ?_ | refine r_load hT rfl rfl rfl rfl rfl rfl rfl rfl rfl ?_)))
        refine r_thaw 49 rfl ?_
        refine r_idx (row := v.row) hT rfl rfl rfl rfl rfl rfl rfl rfl rfl rfl rfl rfl (by show (0 : Int) ≤ (t : Int); omega) (by simp [hvt]) ?_
        (repeat (first | refine r_end ?_ | (refine r_op ?_; first | refine r_load hT rfl rfl rfl rfl rfl rfl rfl rfl rfl ?_ | refine r_store hT rfl rfl rfl rfl rfl rfl rfl rfl rfl rfl ?_ | refine r_alloc hT rfl rfl rfl rfl rfl rfl rfl rfl rfl ?_) | refine gi_seq ?_))
        apply gi_cut (σ := Unit) (fun _ => [(9, .box 1 0), (8, I (t : Int)), (7, .box 0 0), (6, I (j : Int)), (5, .sl 0), (0, .r (.rs 12 (l.map Ls.row))), (1, I g)]) (fun _ => [hHd x, hV v]) (fun _ => [eV m']) (fun _ => True) (fun _ => rfl)
        case first =>
          intro fin
          (repeat (first | (refine r_op ?_; first | refine r_pure hT rfl rfl rfl rfl rfl rfl ?_ | refine r_load hT rfl rfl rfl rfl rfl rfl rfl rfl rfl ?_) | refine gi_plain ?_))
          refine r_case (d := 56) rfl (fun d1 => ?_) (fun d1 => ?_)
          · (repeat ((refine r_op ?_; first | refine r_pure hT rfl rfl rfl rfl rfl rfl ?_ | refine r_load hT rfl rfl rfl rfl rfl rfl rfl rfl rfl ?_)))
            refine r_case (d := 63) rfl (fun d2 => ?_) (fun d2 => ?_)
            · (repeat (first | refine r_end ?_ | (refine r_op ?_; first | refine r_pure hT rfl rfl rfl rfl rfl rfl ?_ | refine r_off rfl rfl rfl rfl rfl ?_) | (refine gi_cnd ?_; first | refine gi_true rfl ?_ | refine gi_false rfl ?_)))
              exact fin () _ _ _ trivial ⟨rfl, rfl, rfl, rfl, rfl, rfl, rfl, trivial⟩ ⟨rfl, rfl, trivial⟩ ⟨rfl, trivial⟩
            · (repeat ((refine r_op ?_; first | refine r_pure hT rfl rfl rfl rfl rfl rfl ?_ | refine r_load hT rfl rfl rfl rfl rfl rfl rfl rfl rfl ?_)))
              refine r_case (d := 67) rfl (fun d3 => ?_) (fun d3 => ?_)
              · (repeat ((refine r_op ?_; first | refine r_pure hT rfl rfl rfl rfl rfl rfl ?_ | refine r_load hT rfl rfl rfl rfl rfl rfl rfl rfl rfl ?_)))
                refine r_call (network_ok l v.i x.adv (by omega)) rfl rfl rfl rfl rfl rfl rfl rfl Try.func51 rfl rfl rfl pSome ?_
                rintro r S1 ⟨⟨b, rfl⟩, rfl⟩
                (repeat (first | refine r_end ?_ | (refine r_op ?_; refine r_pure hT rfl rfl rfl rfl rfl rfl ?_)))
                refine gi_cond rfl (fun d4 => ?_) (fun d4 => ?_)
                · skip
                  exact fin () _ _ _ trivial ⟨rfl, rfl, rfl, rfl, rfl, rfl, rfl, trivial⟩ ⟨rfl, rfl, trivial⟩ ⟨rfl, trivial⟩
                · (repeat (first | refine r_end ?_ | (refine r_op ?_; refine r_pure hT rfl rfl rfl rfl rfl rfl ?_) | refine gi_plain ?_ | refine gi_skip ?_ | refine gi_inBlock ?_))
                  exact on m' (by omega) _ _ _ ⟨rfl, rfl, rfl, rfl, rfl, rfl, trivial⟩ ⟨rfl, trivial⟩ ⟨rfl, trivial⟩
              · (repeat (first | refine r_end ?_ | (refine r_op ?_; first | refine r_pure hT rfl rfl rfl rfl rfl rfl ?_ | refine r_off rfl rfl rfl rfl rfl ?_) | refine gi_plain ?_ | refine gi_skip ?_ | refine gi_inBlock ?_ | (refine gi_cnd ?_; first | refine gi_true rfl ?_ | refine gi_false rfl ?_)))
                exact on m' (by omega) _ _ _ ⟨rfl, rfl, rfl, rfl, rfl, rfl, trivial⟩ ⟨rfl, trivial⟩ ⟨rfl, trivial⟩
          · (repeat ((refine r_op ?_; first | refine r_pure hT rfl rfl rfl rfl rfl rfl ?_ | refine r_load hT rfl rfl rfl rfl rfl rfl rfl rfl rfl ?_ | refine r_off rfl rfl rfl rfl rfl ?_)))
            refine r_case (d := 67) rfl (fun d3 => ?_) (fun d3 => ?_)
            · (repeat ((refine r_op ?_; first | refine r_pure hT rfl rfl rfl rfl rfl rfl ?_ | refine r_load hT rfl rfl rfl rfl rfl rfl rfl rfl rfl ?_)))
              refine r_call (network_ok l v.i x.adv (by omega)) rfl rfl rfl rfl rfl rfl rfl rfl Try.func51 rfl rfl rfl pSome ?_
              rintro r S1 ⟨⟨b, rfl⟩, rfl⟩
              (repeat (first | refine r_end ?_ | (refine r_op ?_; refine r_pure hT rfl rfl rfl rfl rfl rfl ?_)))
              refine gi_cond rfl (fun d4 => ?_) (fun d4 => ?_)
              · skip
                exact fin () _ _ _ trivial ⟨rfl, rfl, rfl, rfl, rfl, rfl, rfl, trivial⟩ ⟨rfl, rfl, trivial⟩ ⟨rfl, trivial⟩
              · (repeat (first | refine r_end ?_ | (refine r_op ?_; refine r_pure hT rfl rfl rfl rfl rfl rfl ?_) | refine gi_plain ?_ | refine gi_skip ?_ | refine gi_inBlock ?_))
                exact on m' (by omega) _ _ _ ⟨rfl, rfl, rfl, rfl, rfl, rfl, trivial⟩ ⟨rfl, trivial⟩ ⟨rfl, trivial⟩
            · (repeat (first | refine r_end ?_ | (refine r_op ?_; first | refine r_pure hT rfl rfl rfl rfl rfl rfl ?_ | refine r_off rfl rfl rfl rfl rfl ?_) | refine gi_plain ?_ | refine gi_skip ?_ | refine gi_inBlock ?_ | (refine gi_cnd ?_; first | refine gi_true rfl ?_ | refine gi_false rfl ?_)))
              exact on m' (by omega) _ _ _ ⟨rfl, rfl, rfl, rfl, rfl, rfl, trivial⟩ ⟨rfl, trivial⟩ ⟨rfl, trivial⟩
        case after =>
          intro _ _
          (repeat (first | (refine r_op ?_; first | refine r_pure hT rfl rfl rfl rfl rfl rfl ?_ | refine r_load hT rfl rfl rfl rfl rfl rfl rfl rfl rfl ?_) | refine gi_plain ?_))
          refine r_callX [] [0] (Vert_ok m' v (by omega)) rfl rfl rfl rfl rfl rfl Try.func52 rfl rfl rfl rfl rfl rfl rfl pV1 ?_
          rintro r H1 S1 ⟨rfl, rfl, rfl⟩
          (repeat (first | refine r_end ?_ | (refine r_op ?_; refine r_pure hT rfl rfl rfl rfl rfl rfl ?_) | refine gi_plain ?_ | refine gi_inBlock ?_))
          refine gi_pick [0] [1] rfl rfl rfl rfl rfl ?_
          have := insV_len (v := v) m'
          exact on _ (by omega) _ _ _ ⟨rfl, rfl, rfl, rfl, rfl, rfl, trivial⟩ ⟨rfl, trivial⟩ ⟨rfl, trivial⟩
      · (repeat (first | refine r_end ?_ | (refine r_op ?_; refine r_pure hT rfl rfl rfl rfl rfl rfl ?_) | refine gi_plain ?_ | refine gi_inBlock ?_ | refine gi_exit rfl ?_))
        exact go m' (by omega) _ _ _ ⟨rfl, rfl, rfl, rfl, trivial⟩ trivial ⟨rfl, trivial⟩
  · (repeat (first | refine r_end ?_ | (refine r_op ?_; refine r_pure hT rfl rfl rfl rfl rfl rfl ?_) | refine gi_seq ?_ | refine gi_plain ?_ | refine gi_exit rfl ?_))
    refine gi_retW hT Try.func20 rfl rfl [0] rfl rfl rfl rfl ?_
    exact ⟨rfl, m, rfl, by omega⟩
theorem MembersR (l : List Ls) (g : Int) (hl : l.length ≤ 1000) (hv : ∀ x ∈ l, x.vt.length ≤ 70) : FnR Try.prog 20 [rsL l, I g] (RMem 70000) := FnR.up (by
  show FnR _ _ [upA (rsL l), I g] _
  rw [up_rsL]; exact MembersF l g hl hv) pMem
end Go.Proofs.Ytmocggibcniggaa.Kt
