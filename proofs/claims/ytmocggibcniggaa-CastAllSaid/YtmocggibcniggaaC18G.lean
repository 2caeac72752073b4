/- Part of the proofs of this seat's statements: what the functions compute. No condition. -/
import Derived.Test.YtmocggibcniggaaC18F
set_option linter.unusedSimpArgs false
set_option linter.unusedVariables false
namespace Go.Proofs.Ytmocggibcniggaa.Kt
open Go Kw Go.Proofs
attribute [local irreducible] Kw.GI Kw.GR Kw.FnR Kw.FnX
set_option maxHeartbeats 8000000
set_option maxRecDepth 100000
theorem from_ok (l : List Ls) (v : Vt) (hw : Few l) : FnX Try.prog 46 [fsL l, v.av] [] [] (RV1 (eE (fromL l v))) := by
  have hl : l.length < 1000000 := by have := hw.len; omega
  obtain ⟨x0, hx0⟩ : ∃ x0, x0 = (findL l v).getD zLs := ⟨_, rfl⟩
  have hk0 : x0.lk.length ≤ 1000 := hx0 ▸ hw.fl v
  have hr0 : x0.rt.length ≤ 1000 := hx0 ▸ hw.fr v
  refine fnX_intro (T := TT) (n := 154) Try.func46 rfl rfl rfl (fun w X Z Y B => ?_)
  (repeat (first | refine r_end ?_ | (refine r_op ?_; first | refine r_pure hT rfl rfl rfl rfl rfl rfl ?_ | refine r_box rfl rfl rfl rfl rfl rfl rfl rfl rfl ?_) | refine gi_seq ?_ | refine gi_plain_ne 2 rfl ?_))
  refine gi_adopt (e := 69) (sz := 6) 5 rfl ?_
  (repeat (first | (refine r_op ?_; first | refine r_pure hT rfl rfl rfl rfl rfl rfl ?_ | refine r_load hT rfl rfl rfl rfl rfl rfl rfl rfl rfl ?_) | refine gi_plain ?_))
  refine r_callX [] [] (FnR.x (find_ok l v hl)) rfl rfl rfl rfl rfl rfl Try.func45 rfl rfl rfl rfl rfl rfl rfl pFd ?_
  rintro r H1 S1 ⟨rfl, rfl, rfl⟩
  rw [← hx0]
  (repeat (first | refine r_end ?_ | (refine r_op ?_; first | refine r_pure hT rfl rfl rfl rfl rfl rfl ?_ | refine r_store hT rfl rfl rfl rfl rfl rfl rfl rfl rfl rfl ?_ | refine r_alloc hT rfl rfl rfl rfl rfl rfl rfl rfl rfl ?_) | refine gi_seq ?_ | refine gi_plain ?_ | refine gi_block ?_))
  refine gi_pick [0, 1] [0] rfl rfl rfl rfl rfl ?_
  apply gi_cut (σ := Unit) (fun _ => [(6, .box 1 0), (5, .sl 0), (3, .box 0 0), (0, fsL l)]) (fun _ => [hV v, hLs x0]) (fun _ => [eE (x0.lk.flatMap (edK l v))]) (fun _ => True) (fun _ => rfl)
  case first =>
    intro fin
    refine gi_loop (σ := Nat) (fun j => [(8, I j), (6, .box 1 0), (5, .sl 0), (3, .box 0 0), (0, fsL l)]) (fun _ => [hV v, hLs x0]) (fun j => [eE ((x0.lk.take j).flatMap (edK l v))]) (fun j => j ≤ x0.lk.length) (fun j => x0.lk.length - j) 0 (Nat.zero_le _) ⟨rfl, rfl, rfl, rfl, rfl, trivial⟩ ⟨rfl, rfl, trivial⟩ ⟨rfl, trivial⟩ (fun _ => rfl) (fun j hj next => ?_)
    have hj : j ≤ x0.lk.length := hj
    (repeat (first | refine r_end ?_ | (refine r_op ?_; first | refine r_pure hT rfl rfl rfl rfl rfl rfl ?_ | refine r_load hT rfl rfl rfl rfl rfl rfl rfl rfl rfl ?_) | refine gi_seq ?_ | refine gi_plain ?_))
    refine gi_lt (q := ((x0.lk.map Lk.row).length : Int)) rfl (fun h3 => ?_) (fun h3 => ?_)
    · rw [List.length_map] at h3
      have hjl : j < x0.lk.length := by omega
      obtain ⟨k, hk⟩ : ∃ k, x0.lk[j]? = some k := ⟨_, List.getElem?_eq_getElem hjl⟩
      have hft := flat_take (edK l v) hk
      obtain ⟨m, hm⟩ : ∃ m, m = (x0.lk.take j).flatMap (edK l v) := ⟨_, rfl⟩
      have hml : m.length ≤ 2 * j := by
        have := flatK_len l v (x0.lk.take j)
        rw [List.length_take] at this
        rw [hm]; omega
      rw [← hm] at hft
      rw [← hm]
      have h1l := edK1_len l v k
      (repeat (first | (refine r_op ?_; first | refine r_pure hT rfl rfl rfl rfl rfl rfl ?_ | refine r_load hT rfl rfl rfl rfl rfl rfl rfl rfl rfl ?_) | refine gi_seq ?_ | refine gi_plain ?_ | refine gi_skip ?_ | refine gi_block ?_))
      refine r_thaw 38 rfl ?_
      refine r_idx (row := k.row) hT rfl rfl rfl rfl rfl rfl rfl rfl rfl rfl rfl rfl (by omega) (by simp [hk]) ?_
      (repeat (first | refine r_end ?_ | (refine r_op ?_; first | refine r_load hT rfl rfl rfl rfl rfl rfl rfl rfl rfl ?_ | refine r_store hT rfl rfl rfl rfl rfl rfl rfl rfl rfl rfl ?_ | refine r_alloc hT rfl rfl rfl rfl rfl rfl rfl rfl rfl ?_) | refine gi_seq ?_))
      apply gi_cut (σ := Unit) (fun _ => [(9, .box 2 0), (8, I j), (6, .box 1 0), (5, .sl 0), (3, .box 0 0), (0, fsL l)]) (fun _ => [hV v, hLs x0, hLk k]) (fun _ => [eE (m ++ edK1 l v k)]) (fun _ => True) (fun _ => rfl)
      case first =>
        intro fn
        (repeat (first | refine r_end ?_ | (refine r_op ?_; first | refine r_pure hT rfl rfl rfl rfl rfl rfl ?_ | refine r_load hT rfl rfl rfl rfl rfl rfl rfl rfl rfl ?_) | refine gi_plain ?_))
        refine gi_cond rfl (fun c1 => ?_) (fun c1 => ?_)
        · (repeat (first | refine r_end ?_ | (refine r_op ?_; first | refine r_pure hT rfl rfl rfl rfl rfl rfl ?_ | refine r_load hT rfl rfl rfl rfl rfl rfl rfl rfl rfl ?_ | refine r_store hT rfl rfl rfl rfl rfl rfl rfl rfl rfl rfl ?_ | refine r_alloc hT rfl rfl rfl rfl rfl rfl rfl rfl rfl ?_) | refine gi_seq ?_ | refine gi_plain ?_))
          refine r_callX [] [] (FnR.x (find_ok l ⟨1, k.i⟩ hl)) rfl rfl rfl rfl rfl rfl Try.func45 rfl rfl rfl rfl rfl rfl rfl pFd ?_
          rintro r H1 S1 ⟨rfl, rfl, rfl⟩
          (repeat (first | refine r_end ?_ | (refine r_op ?_; first | refine r_pure hT rfl rfl rfl rfl rfl rfl ?_ | refine r_load hT rfl rfl rfl rfl rfl rfl rfl rfl rfl ?_ | refine r_store hT rfl rfl rfl rfl rfl rfl rfl rfl rfl rfl ?_ | refine r_alloc hT rfl rfl rfl rfl rfl rfl rfl rfl rfl ?_) | refine gi_seq ?_ | refine gi_plain ?_))
          refine r_call (back_ok ((findL l ⟨1, k.i⟩).getD zLs) 1 v.i (by have := hw.fl ⟨1, k.i⟩; omega)) rfl rfl rfl rfl rfl rfl rfl rfl Try.func76 rfl rfl rfl (pA rfl) ?_
          rintro r S1 ⟨rfl, rfl⟩
          (repeat (first | refine r_end ?_ | (refine r_op ?_; first | refine r_pure hT rfl rfl rfl rfl rfl rfl ?_ | refine r_store hT rfl rfl rfl rfl rfl rfl rfl rfl rfl rfl ?_ | refine r_alloc hT rfl rfl rfl rfl rfl rfl rfl rfl rfl ?_) | refine gi_seq ?_ | refine gi_plain ?_))
          have he1 : edK1 l v k = (match (findL l ⟨1, k.i⟩).isSome && (backL ((findL l ⟨1, k.i⟩).getD zLs).lk 1 v.i).isSome with
            | true => [⟨v, ⟨1, k.i⟩, k.c, k.d⟩]
            | false => []) := by unfold edK1; rw [c1]; try rfl
          refine r_case (d := 62) rfl (fun c2 => ?_) (fun c2 => ?_)
          · (repeat (first | refine r_end ?_ | (refine r_op ?_; refine r_pure hT rfl rfl rfl rfl rfl rfl ?_)))
            refine gi_cond rfl (fun c3 => ?_) (fun c3 => ?_)
            · rw [c2, c3] at he1
              (repeat (first | (refine r_op ?_; first | refine r_pure hT rfl rfl rfl rfl rfl rfl ?_ | refine r_load hT rfl rfl rfl rfl rfl rfl rfl rfl rfl ?_ | refine r_lit hT rfl rfl rfl rfl rfl rfl rfl rfl rfl rfl rfl rfl rfl ?_) | refine gi_plain ?_))
              refine r_append hT rfl rfl rfl rfl rfl rfl rfl rfl rfl rfl rfl rfl rfl rfl rfl rfl rfl ?_ ?_
              · simp only [List.length_cons, List.length_nil, List.length_map, maxLen]
                constructor
                · omega
                · show _ * 48 ≤ _
                  omega
              (repeat (first | refine r_end ?_ | (refine r_op ?_; refine r_pure hT rfl rfl rfl rfl rfl rfl ?_) | refine gi_seq ?_))
              refine gi_pick [0, 1, 2] [0] rfl rfl rfl rfl rfl ?_
              refine fn () _ _ _ trivial ⟨rfl, rfl, rfl, rfl, rfl, rfl, trivial⟩ ⟨rfl, rfl, rfl, trivial⟩ ⟨?_, trivial⟩
              rw [he1]
              exact (eE_app m [⟨v, ⟨1, k.i⟩, k.c, k.d⟩]).symm
            · rw [c2, c3] at he1
              (repeat (first | refine gi_seq ?_ | refine gi_skip ?_))
              refine gi_pick [0, 1, 2] [0] rfl rfl rfl rfl rfl ?_
              exact fn () _ _ _ trivial ⟨rfl, rfl, rfl, rfl, rfl, rfl, trivial⟩ ⟨rfl, rfl, rfl, trivial⟩ ⟨by rw [he1, Bool.true_and, List.append_nil], trivial⟩
          · rw [c2] at he1
            (repeat (first | refine r_end ?_ | (refine r_op ?_; first | refine r_pure hT rfl rfl rfl rfl rfl rfl ?_ | refine r_off rfl rfl rfl rfl rfl ?_) | refine gi_seq ?_ | refine gi_skip ?_ | (refine gi_cnd ?_; first | refine gi_true rfl ?_ | refine gi_false rfl ?_)))
            refine gi_pick [0, 1, 2] [0] rfl rfl rfl rfl rfl ?_
            exact fn () _ _ _ trivial ⟨rfl, rfl, rfl, rfl, rfl, rfl, trivial⟩ ⟨rfl, rfl, rfl, trivial⟩ ⟨by rw [he1, Bool.false_and, List.append_nil], trivial⟩
        · have he1 : edK1 l v k = [] := by unfold edK1; rw [c1]; try rfl
          (repeat (first | refine gi_seq ?_ | refine gi_skip ?_))
          refine gi_pick [0, 1, 2] [0] rfl rfl rfl rfl rfl ?_
          exact fn () _ _ _ trivial ⟨rfl, rfl, rfl, rfl, rfl, rfl, trivial⟩ ⟨rfl, rfl, rfl, trivial⟩ ⟨by rw [he1, List.append_nil], trivial⟩
      case after =>
        intro _ _
        have hm1 : (m ++ edK1 l v k).length ≤ 2 * j + 1 := by rw [List.length_append]; omega
        obtain ⟨m1, hmm⟩ : ∃ m1, m1 = m ++ edK1 l v k := ⟨_, rfl⟩
        rw [← hmm] at hm1 ⊢
        have nx : ∀ m', m' = m1 ++ edK2 l v k → ∀ F1 H1 S1, SubF [(8, I (wr .i64 ((j : Int) + 1))), (6, .box 1 0), (5, .sl 0), (3, .box 0 0), (0, fsL l)] F1 → SubH [hV v, hLs x0] H1 → SubS [eE m'] S1 → GI _ _ F1 H1 S1 := fun m' h F1 H1 S1 hF hH hS => by
          refine next (j + 1) F1 H1 S1 hjl (by omega) ?_ hH ?_
          · rw [wr_i64 (by omega) (by omega)] at hF
            simpa using hF
          · rw [hft]; unfold edK; rw [← List.append_assoc, ← hmm, ← h]; exact hS
        (repeat (first | refine r_end ?_ | (refine r_op ?_; first | refine r_pure hT rfl rfl rfl rfl rfl rfl ?_ | refine r_load hT rfl rfl rfl rfl rfl rfl rfl rfl rfl ?_) | refine gi_plain ?_))
        refine gi_cond rfl (fun c1 => ?_) (fun c1 => ?_)
        · (repeat (first | refine r_end ?_ | (refine r_op ?_; first | refine r_pure hT rfl rfl rfl rfl rfl rfl ?_ | refine r_load hT rfl rfl rfl rfl rfl rfl rfl rfl rfl ?_ | refine r_store hT rfl rfl rfl rfl rfl rfl rfl rfl rfl rfl ?_ | refine r_alloc hT rfl rfl rfl rfl rfl rfl rfl rfl rfl ?_) | refine gi_seq ?_ | refine gi_plain ?_))
          refine r_callX [] [] (FnR.x (find_ok l ⟨2, k.i⟩ hl)) rfl rfl rfl rfl rfl rfl Try.func45 rfl rfl rfl rfl rfl rfl rfl pFd ?_
          rintro r H1 S1 ⟨rfl, rfl, rfl⟩
          (repeat (first | refine r_end ?_ | (refine r_op ?_; first | refine r_pure hT rfl rfl rfl rfl rfl rfl ?_ | refine r_store hT rfl rfl rfl rfl rfl rfl rfl rfl rfl rfl ?_ | refine r_alloc hT rfl rfl rfl rfl rfl rfl rfl rfl rfl ?_) | refine gi_seq ?_ | refine gi_plain ?_))
          have he1 : edK2 l v k = (match (findL l ⟨2, k.i⟩).isSome && ((findL l ⟨2, k.i⟩).getD zLs).rt.contains v.i with
            | true => [⟨v, ⟨2, k.i⟩, k.c, k.d⟩]
            | false => []) := by unfold edK2; rw [c1]; try rfl
          refine r_case (d := 88) rfl (fun c2 => ?_) (fun c2 => ?_)
          · (repeat ((refine r_op ?_; first | refine r_pure hT rfl rfl rfl rfl rfl rfl ?_ | refine r_load hT rfl rfl rfl rfl rfl rfl rfl rfl rfl ?_)))
            refine r_thaw 90 rfl ?_
            refine r_call (Has_ok ((findL l ⟨2, k.i⟩).getD zLs).rt v.i (by have := hw.fr ⟨2, k.i⟩; omega)) rfl rfl rfl rfl rfl rfl rfl rfl Try.func57 rfl rfl rfl pB ?_
            rintro r S1 ⟨rfl, rfl⟩
            (repeat (first | refine r_end ?_ | (refine r_op ?_; refine r_pure hT rfl rfl rfl rfl rfl rfl ?_)))
            refine gi_cond rfl (fun c3 => ?_) (fun c3 => ?_)
            · rw [c2, c3] at he1
              (repeat (first | (refine r_op ?_; first | refine r_pure hT rfl rfl rfl rfl rfl rfl ?_ | refine r_load hT rfl rfl rfl rfl rfl rfl rfl rfl rfl ?_ | refine r_lit hT rfl rfl rfl rfl rfl rfl rfl rfl rfl rfl rfl rfl rfl ?_) | refine gi_plain ?_))
              refine r_append hT rfl rfl rfl rfl rfl rfl rfl rfl rfl rfl rfl rfl rfl rfl rfl rfl rfl ?_ ?_
              · simp only [List.length_cons, List.length_nil, List.length_map, maxLen]
                constructor
                · omega
                · show _ * 48 ≤ _
                  omega
              (repeat (first | refine r_end ?_ | (refine r_op ?_; refine r_pure hT rfl rfl rfl rfl rfl rfl ?_) | refine gi_plain ?_ | refine gi_inBlock ?_))
              refine gi_pick [0, 1] [0] rfl rfl rfl rfl rfl ?_
              refine nx (m1 ++ [⟨v, ⟨2, k.i⟩, k.c, k.d⟩]) (by rw [he1]; rfl) _ _ _ ⟨rfl, rfl, rfl, rfl, rfl, trivial⟩ ⟨rfl, rfl, trivial⟩ ⟨?_, trivial⟩
              exact (eE_app m1 [⟨v, ⟨2, k.i⟩, k.c, k.d⟩]).symm
            · rw [c2, c3] at he1
              (repeat (first | refine r_end ?_ | (refine r_op ?_; refine r_pure hT rfl rfl rfl rfl rfl rfl ?_) | refine gi_plain ?_ | refine gi_skip ?_ | refine gi_inBlock ?_))
              refine gi_pick [0, 1] [0] rfl rfl rfl rfl rfl ?_
              exact nx m1 (by rw [he1, Bool.true_and, List.append_nil]) _ _ _ ⟨rfl, rfl, rfl, rfl, rfl, trivial⟩ ⟨rfl, rfl, trivial⟩ ⟨rfl, trivial⟩
          · rw [c2] at he1
            (repeat (first | refine r_end ?_ | (refine r_op ?_; first | refine r_pure hT rfl rfl rfl rfl rfl rfl ?_ | refine r_off rfl rfl rfl rfl rfl ?_) | refine gi_plain ?_ | refine gi_skip ?_ | refine gi_inBlock ?_ | (refine gi_cnd ?_; first | refine gi_true rfl ?_ | refine gi_false rfl ?_)))
            refine gi_pick [0, 1] [0] rfl rfl rfl rfl rfl ?_
            exact nx m1 (by rw [he1, Bool.false_and, List.append_nil]) _ _ _ ⟨rfl, rfl, rfl, rfl, rfl, trivial⟩ ⟨rfl, rfl, trivial⟩ ⟨rfl, trivial⟩
        · have he1 : edK2 l v k = [] := by unfold edK2; rw [c1]; try rfl
          (repeat (first | refine r_end ?_ | (refine r_op ?_; refine r_pure hT rfl rfl rfl rfl rfl rfl ?_) | refine gi_plain ?_ | refine gi_skip ?_ | refine gi_inBlock ?_))
          refine gi_pick [0, 1] [0] rfl rfl rfl rfl rfl ?_
          exact nx m1 (by rw [he1, List.append_nil]) _ _ _ ⟨rfl, rfl, rfl, rfl, rfl, trivial⟩ ⟨rfl, rfl, trivial⟩ ⟨rfl, trivial⟩
    · rw [List.length_map] at h3
      have hjl : j = x0.lk.length := by omega
      subst hjl
      rw [List.take_length]
      (repeat (first | refine gi_seq ?_ | refine gi_exit rfl ?_))
      exact fin () _ _ _ trivial ⟨rfl, rfl, rfl, rfl, trivial⟩ ⟨rfl, rfl, trivial⟩ ⟨rfl, trivial⟩
  case after =>
    intro _ _
    have hfl : fromL l v = x0.lk.flatMap (edK l v) ++ edRs l v x0.rt x0.rt.length := by unfold fromL; rw [← hx0]
    obtain ⟨A, hA⟩ : ∃ A, A = x0.lk.flatMap (edK l v) := ⟨_, rfl⟩
    have hAl : A.length ≤ 2000 := by have := flatK_len l v x0.lk; rw [hA]; omega
    rw [← hA] at hfl ⊢
    (repeat (first | refine r_end ?_ | (refine r_op ?_; refine r_pure hT rfl rfl rfl rfl rfl rfl ?_) | refine gi_plain ?_ | refine gi_block ?_))
    refine gi_loop (σ := Nat) (fun j => [(18, I j), (6, .box 1 0), (5, .sl 0), (3, .box 0 0), (0, fsL l)]) (fun _ => [hV v, hLs x0]) (fun j => [eE (A ++ edRs l v x0.rt j)]) (fun j => j ≤ x0.rt.length) (fun j => x0.rt.length - j) 0 (Nat.zero_le _) ⟨rfl, rfl, rfl, rfl, rfl, trivial⟩ ⟨rfl, rfl, trivial⟩ ⟨by rw [show edRs l v x0.rt 0 = [] from rfl, List.append_nil], trivial⟩ (fun _ => rfl) (fun j hj next => ?_)
    have hj : j ≤ x0.rt.length := hj
    (repeat (first | refine r_end ?_ | (refine r_op ?_; first | refine r_pure hT rfl rfl rfl rfl rfl rfl ?_ | refine r_load hT rfl rfl rfl rfl rfl rfl rfl rfl rfl ?_) | refine gi_seq ?_ | refine gi_plain ?_))
    refine gi_lt (q := ((x0.rt.map nRow).length : Int)) rfl (fun h3 => ?_) (fun h3 => ?_)
    · rw [List.length_map] at h3
      have hjl : j < x0.rt.length := by omega
      obtain ⟨k, hk⟩ : ∃ k, x0.rt[j]? = some k := ⟨_, List.getElem?_eq_getElem hjl⟩
      have hft : edRs l v x0.rt (j + 1) = edRs l v x0.rt j ++ edR l v (x0.rt.take j) k := by rw [edRs, hk]
      have hml : (A ++ edRs l v x0.rt j).length ≤ 2000 + j := by
        have := edRs_len l v x0.rt j
        rw [List.length_append]; omega
      obtain ⟨m, hmA⟩ : ∃ m, m = A ++ edRs l v x0.rt j := ⟨_, rfl⟩
      rw [← hmA] at hml
      rw [← hmA]
      have nx : ∀ m', m' = m ++ edR l v (x0.rt.take j) k → ∀ F1 H1 S1, SubF [(18, I (wr .i64 ((j : Int) + 1))), (6, .box 1 0), (5, .sl 0), (3, .box 0 0), (0, fsL l)] F1 → SubH [hV v, hLs x0] H1 → SubS [eE m'] S1 → GI _ _ F1 H1 S1 := fun m' h F1 H1 S1 hF hH hS => by
        refine next (j + 1) F1 H1 S1 hjl (by omega) ?_ hH ?_
        · rw [wr_i64 (by omega) (by omega)] at hF
          simpa using hF
        · rw [hft, ← List.append_assoc, ← hmA, ← h]; exact hS
      (repeat (first | refine gi_seq ?_ | refine gi_skip ?_ | refine gi_block ?_))
      refine gi_drawM [] [(0, .p), (2, .p), (4, .p), (6, .p), (1, .t), (3, .p), (5, .t), (7, .p), (8, .t), (9, .o)] [0, 1, 0, 6, 0, 16, 0, 96, 128, 264] [0, 1, 0, 6, 0, 16, 0, 96, 128, 264] hm rfl (by kernel_rfl) (fun w1 K => ?_)
      (repeat ((refine r_op ?_; first | refine r_pure hT rfl rfl rfl rfl rfl rfl ?_ | refine r_load hT rfl rfl rfl rfl rfl rfl rfl rfl rfl ?_)))
      refine r_sliceF (L' := (x0.rt.take j).map nRow) hT rfl rfl rfl rfl rfl rfl rfl rfl rfl rfl rfl rfl rfl (by (try dsimp only) <;> (try simp only [wrL, List.length_map, List.length_append, List.length_take, List.length_drop, List.length_replicate, List.length_cons, List.length_nil]) <;> omega) (by show List.take _ (List.drop 0 (x0.rt.map nRow)) = _; rw [List.drop_zero, List.map_take]; congr 1) ?_
      refine r_thaw 115 rfl ?_
      (repeat ((refine r_op ?_; refine r_load hT rfl rfl rfl rfl rfl rfl rfl rfl rfl ?_)))
      refine r_thaw 117 rfl ?_
      refine r_idx (row := nRow k) hT rfl rfl rfl rfl rfl rfl rfl rfl rfl rfl rfl rfl (by omega) (by simp [hk]) ?_
      (repeat ((refine r_op ?_; refine r_load hT rfl rfl rfl rfl rfl rfl rfl rfl rfl ?_)))
      refine r_call (Has_ok (x0.rt.take j) k (by rw [List.length_take]; omega)) rfl rfl rfl rfl rfl rfl rfl rfl Try.func57 rfl rfl rfl pB ?_
      rintro r S1 ⟨rfl, rfl⟩
      (repeat (refine r_end ?_))
      refine gi_cond rfl (fun c0 => ?_) (fun c0 => ?_)
      · have he1 : edR l v (x0.rt.take j) k = [] := by unfold edR; rw [c0]; try rfl
        (repeat (first | refine r_end ?_ | (refine r_op ?_; refine r_pure hT rfl rfl rfl rfl rfl rfl ?_) | refine gi_plain ?_ | refine gi_exit rfl ?_))
        exact nx m (by rw [he1, List.append_nil]) _ _ _ ⟨rfl, rfl, rfl, rfl, rfl, trivial⟩ ⟨rfl, rfl, trivial⟩ ⟨rfl, trivial⟩
      have he1 : edR l v (x0.rt.take j) k = (match (findL l ⟨1, k⟩).isSome && (backL ((findL l ⟨1, k⟩).getD zLs).lk 2 v.i).isSome with
        | true => [⟨v, ⟨1, k⟩, 0, ((backL ((findL l ⟨1, k⟩).getD zLs).lk 2 v.i).getD zLk).d⟩]
        | false => []) := by unfold edR; rw [c0]; try rfl
      (repeat (first | (refine r_op ?_; first | refine r_pure hT rfl rfl rfl rfl rfl rfl ?_ | refine r_load hT rfl rfl rfl rfl rfl rfl rfl rfl rfl ?_) | refine gi_seq ?_ | refine gi_plain ?_ | refine gi_skip ?_))
      refine r_thaw 123 rfl ?_
      refine r_idx (row := nRow k) hT rfl rfl rfl rfl rfl rfl rfl rfl rfl rfl rfl rfl (by omega) (by simp [hk]) ?_
      (repeat (first | refine r_end ?_ | (refine r_op ?_; first | refine r_pure hT rfl rfl rfl rfl rfl rfl ?_ | refine r_load hT rfl rfl rfl rfl rfl rfl rfl rfl rfl ?_ | refine r_store hT rfl rfl rfl rfl rfl rfl rfl rfl rfl rfl ?_ | refine r_alloc hT rfl rfl rfl rfl rfl rfl rfl rfl rfl ?_) | refine gi_seq ?_ | refine gi_plain ?_))
      refine r_callX [] [] (FnR.x (find_ok l ⟨1, k⟩ hl)) rfl rfl rfl rfl rfl rfl Try.func45 rfl rfl rfl rfl rfl rfl rfl pFd ?_
      rintro r H1 S1 ⟨rfl, rfl, rfl⟩
      (repeat (first | refine r_end ?_ | (refine r_op ?_; first | refine r_pure hT rfl rfl rfl rfl rfl rfl ?_ | refine r_load hT rfl rfl rfl rfl rfl rfl rfl rfl rfl ?_ | refine r_store hT rfl rfl rfl rfl rfl rfl rfl rfl rfl rfl ?_ | refine r_alloc hT rfl rfl rfl rfl rfl rfl rfl rfl rfl ?_) | refine gi_seq ?_ | refine gi_plain ?_))
      refine r_call (back_ok ((findL l ⟨1, k⟩).getD zLs) 2 v.i (by have := hw.fl ⟨1, k⟩; omega)) rfl rfl rfl rfl rfl rfl rfl rfl Try.func76 rfl rfl rfl (pA rfl) ?_
      rintro r S1 ⟨rfl, rfl⟩
      (repeat (first | refine r_end ?_ | (refine r_op ?_; first | refine r_pure hT rfl rfl rfl rfl rfl rfl ?_ | refine r_store hT rfl rfl rfl rfl rfl rfl rfl rfl rfl rfl ?_ | refine r_alloc hT rfl rfl rfl rfl rfl rfl rfl rfl rfl ?_) | refine gi_seq ?_ | refine gi_plain ?_))
      refine r_case (d := 142) rfl (fun c2 => ?_) (fun c2 => ?_)
      · (repeat (first | refine r_end ?_ | (refine r_op ?_; refine r_pure hT rfl rfl rfl rfl rfl rfl ?_)))
        refine gi_cond rfl (fun c3 => ?_) (fun c3 => ?_)
        · rw [c2, c3] at he1
          (repeat (first | (refine r_op ?_; first | refine r_pure hT rfl rfl rfl rfl rfl rfl ?_ | refine r_load hT rfl rfl rfl rfl rfl rfl rfl rfl rfl ?_ | refine r_lit hT rfl rfl rfl rfl rfl rfl rfl rfl rfl rfl rfl rfl rfl ?_) | refine gi_plain ?_))
          refine r_append hT rfl rfl rfl rfl rfl rfl rfl rfl rfl rfl rfl rfl rfl rfl rfl rfl rfl ?_ ?_
          · simp only [List.length_cons, List.length_nil, List.length_map, maxLen]
            constructor
            · omega
            · show _ * 48 ≤ _
              omega
          (repeat (first | refine r_end ?_ | (refine r_op ?_; refine r_pure hT rfl rfl rfl rfl rfl rfl ?_) | refine gi_plain ?_ | refine gi_inBlock ?_))
          refine gi_pick [0, 1] [0] rfl rfl rfl rfl rfl ?_
          refine nx (m ++ [_]) (by rw [he1]; rfl) _ _ _ ⟨rfl, rfl, rfl, rfl, rfl, trivial⟩ ⟨rfl, rfl, trivial⟩ ⟨?_, trivial⟩
          exact (eE_app m [_]).symm
        · rw [c2, c3] at he1
          (repeat (first | refine r_end ?_ | (refine r_op ?_; refine r_pure hT rfl rfl rfl rfl rfl rfl ?_) | refine gi_plain ?_ | refine gi_skip ?_ | refine gi_inBlock ?_))
          refine gi_pick [0, 1] [0] rfl rfl rfl rfl rfl ?_
          exact nx m (by rw [he1, Bool.true_and, List.append_nil]) _ _ _ ⟨rfl, rfl, rfl, rfl, rfl, trivial⟩ ⟨rfl, rfl, trivial⟩ ⟨rfl, trivial⟩
      · rw [c2] at he1
        (repeat (first | refine r_end ?_ | (refine r_op ?_; first | refine r_pure hT rfl rfl rfl rfl rfl rfl ?_ | refine r_off rfl rfl rfl rfl rfl ?_) | refine gi_plain ?_ | refine gi_skip ?_ | refine gi_inBlock ?_ | (refine gi_cnd ?_; first | refine gi_true rfl ?_ | refine gi_false rfl ?_)))
        refine gi_pick [0, 1] [0] rfl rfl rfl rfl rfl ?_
        exact nx m (by rw [he1, Bool.false_and, List.append_nil]) _ _ _ ⟨rfl, rfl, rfl, rfl, rfl, trivial⟩ ⟨rfl, rfl, trivial⟩ ⟨rfl, trivial⟩
    · rw [List.length_map] at h3
      have hjl : j = x0.rt.length := by omega
      subst hjl
      rw [← hfl]
      (repeat (first | refine r_end ?_ | (refine r_op ?_; refine r_pure hT rfl rfl rfl rfl rfl rfl ?_) | refine gi_seq ?_ | refine gi_plain ?_ | refine gi_exit rfl ?_))
      refine gi_retX hT Try.func46 rfl [] [0] rfl rfl rfl rfl rfl rfl rfl rfl ?_
      exact ⟨rfl, rfl, rfl⟩
end Go.Proofs.Ytmocggibcniggaa.Kt
