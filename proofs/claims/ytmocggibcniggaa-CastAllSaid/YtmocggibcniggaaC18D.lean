/- Part of the proofs of this seat's statements: what the functions compute. No condition. -/
import Derived.Test.YtmocggibcniggaaC18C
set_option linter.unusedSimpArgs false
set_option linter.unusedVariables false
namespace Go.Proofs.Ytmocggibcniggaa.Kt
open Go Kw Go.Proofs
attribute [local irreducible] Kw.GI Kw.GR Kw.FnR Kw.FnX
set_option maxHeartbeats 8000000
set_option maxRecDepth 100000
def bkP (k i : Int) (x : Lk) : Bool := decide (x.k = k) && decide (x.i = i)
def backL (l : List Lk) (k i : Int) : Option Lk := l.find? (bkP k i)
theorem bkP_eq (k i : Int) (x : Lk) : bkP k i x = (eqB x.k k && eqB x.i i) := by
  unfold bkP
  simp only [eqB_eq, Bool.beq_eq_decide_eq]
theorem backL_at {k i : Int} : ∀ {l : List Lk} {j : Nat} {x : Lk}, (∀ t, t < j → ∀ y, l[t]? = some y → bkP k i y = false) → l[j]? = some x → bkP k i x = true → backL l k i = some x
  | [], j, x, _, h, _ => by simp at h
  | y :: l, 0, x, _, h, hp => by
    simp at h; subst h
    unfold backL; rw [List.find?_cons, hp]
  | y :: l, j + 1, x, hn, h, hp => by
    have := hn 0 (by omega) y rfl
    unfold backL; rw [List.find?_cons, this]
    exact backL_at (l := l) (fun t ht z hz => hn (t + 1) (Nat.succ_lt_succ ht) z (by simpa using hz)) (by simpa using h) hp
theorem backL_none {k i : Int} {l : List Lk} (h : ∀ (t : Nat), ∀ y, l[t]? = some y → bkP k i y = false) : backL l k i = none := by
  unfold backL
  rw [List.find?_eq_none]
  intro y hy
  obtain ⟨t, ht⟩ := List.mem_iff_getElem?.1 hy
  rw [h t y ht]; decide
theorem back_ok (x : Ls) (k i : Int) (hl : x.lk.length < 1000000) : FnR Try.prog 76 [x.av, I k, I i] (fun r S => r = .tup [((backL x.lk k i).getD zLk).av, Bo (backL x.lk k i).isSome] ∧ S = []) := by
  refine fnR_intro (T := TT) (n := 40) Try.func76 rfl rfl rfl (fun w Z => ?_)
  (repeat (first | refine r_end ?_ | (refine r_op ?_; first | refine r_pure hT rfl rfl rfl rfl rfl rfl ?_ | refine r_box rfl rfl rfl rfl rfl rfl rfl rfl rfl ?_ | refine r_alloc hT rfl rfl rfl rfl rfl rfl rfl rfl rfl ?_) | refine gi_seq ?_ | refine gi_plain ?_ | refine gi_block ?_))
  refine gi_loop (σ := Nat) (fun j => [(8, I j), (7, Bo false), (6, .box 1 0), (3, .box 0 0), (1, I k), (2, I i)]) (fun _ => [hLs x, some (54, [I 0, I 0, I 0, I 0])]) (fun _ => []) (fun j => j ≤ x.lk.length ∧ ∀ t, t < j → ∀ y, x.lk[t]? = some y → bkP k i y = false) (fun j => x.lk.length - j) 0 ⟨Nat.zero_le _, fun t ht => absurd ht (Nat.not_lt_zero _)⟩ ⟨rfl, rfl, rfl, rfl, rfl, rfl, trivial⟩ ⟨rfl, rfl, trivial⟩ trivial (fun _ => rfl) (fun j hj next => ?_)
  obtain ⟨hj, hn⟩ := hj
  (repeat (first | refine r_end ?_ | (refine r_op ?_; first | refine r_pure hT rfl rfl rfl rfl rfl rfl ?_ | refine r_load hT rfl rfl rfl rfl rfl rfl rfl rfl rfl ?_) | refine gi_seq ?_ | refine gi_plain ?_))
  refine gi_lt (q := ((x.lk.map Lk.row).length : Int)) rfl (fun h3 => ?_) (fun h3 => ?_)
  · rw [List.length_map] at h3
    have hjl : j < x.lk.length := by omega
    obtain ⟨y, hy⟩ : ∃ y, x.lk[j]? = some y := ⟨_, List.getElem?_eq_getElem hjl⟩
    have hbe := bkP_eq k i y
    have no : bkP k i y = false → ∀ F1 H1 S1, SubF [(8, I (wr .i64 ((j : Int) + 1))), (7, Bo false), (6, .box 1 0), (3, .box 0 0), (1, I k), (2, I i)] F1 → SubH [hLs x, some (54, [I 0, I 0, I 0, I 0])] H1 → SubS [] S1 → GI _ _ F1 H1 S1 := fun hb F1 H1 S1 hF hH hS => by
      refine next (j + 1) F1 H1 S1 ⟨hjl, fun t ht z hz => ?_⟩ (by omega) ?_ hH hS
      · rcases Nat.lt_succ_iff_lt_or_eq.1 ht with ht | rfl
        · exact hn t ht z hz
        · rw [hy] at hz; cases hz; exact hb
      · rw [wr_i64 (by omega) (by omega)] at hF
        simpa using hF
    (repeat (first | (refine r_op ?_; first | refine r_pure hT rfl rfl rfl rfl rfl rfl ?_ | refine r_load hT rfl rfl rfl rfl rfl rfl rfl rfl rfl ?_) | refine gi_seq ?_ | refine gi_plain ?_ | refine gi_skip ?_ | refine gi_block ?_))
    refine r_thaw 17 rfl ?_
    refine r_idx (row := y.row) hT rfl rfl rfl rfl rfl rfl rfl rfl rfl rfl rfl rfl (by omega) (by simp [hy]) ?_
    (repeat ((refine r_op ?_; first | refine r_pure hT rfl rfl rfl rfl rfl rfl ?_ | refine r_load hT rfl rfl rfl rfl rfl rfl rfl rfl rfl ?_)))
    refine r_case (d := 24) rfl (fun c1 => ?_) (fun c1 => ?_)
    · (repeat ((refine r_op ?_; first | refine r_pure hT rfl rfl rfl rfl rfl rfl ?_ | refine r_load hT rfl rfl rfl rfl rfl rfl rfl rfl rfl ?_)))
      refine r_thaw 26 rfl ?_
      refine r_idx (row := y.row) hT rfl rfl rfl rfl rfl rfl rfl rfl rfl rfl rfl rfl (by omega) (by simp [hy]) ?_
      (repeat (first | refine r_end ?_ | (refine r_op ?_; first | refine r_pure hT rfl rfl rfl rfl rfl rfl ?_ | refine r_load hT rfl rfl rfl rfl rfl rfl rfl rfl rfl ?_)))
      refine gi_cond rfl (fun c2 => ?_) (fun c2 => ?_)
      · rw [c1, c2] at hbe
        have hb := backL_at hn hy (hbe.trans rfl)
        (repeat (first | (refine r_op ?_; first | refine r_pure hT rfl rfl rfl rfl rfl rfl ?_ | refine r_load hT rfl rfl rfl rfl rfl rfl rfl rfl rfl ?_) | refine gi_seq ?_ | refine gi_plain ?_))
        refine r_thaw 35 rfl ?_
        refine r_idx (row := y.row) hT rfl rfl rfl rfl rfl rfl rfl rfl rfl rfl rfl rfl (by omega) (by simp [hy]) ?_
        (repeat (first | refine r_end ?_ | (refine r_op ?_; first | refine r_pure hT rfl rfl rfl rfl rfl rfl ?_ | refine r_load hT rfl rfl rfl rfl rfl rfl rfl rfl rfl ?_ | refine r_store hT rfl rfl rfl rfl rfl rfl rfl rfl rfl rfl ?_)))
        refine gi_retW hT Try.func76 rfl rfl [] rfl rfl rfl rfl ?_
        rw [hb]
        exact ⟨rfl, rfl⟩
      · rw [c1, c2] at hbe
        (repeat (first | refine r_end ?_ | (refine r_op ?_; refine r_pure hT rfl rfl rfl rfl rfl rfl ?_) | refine gi_plain ?_ | refine gi_skip ?_ | refine gi_inBlock ?_))
        exact no (hbe.trans rfl) _ _ _ ⟨rfl, rfl, rfl, rfl, rfl, rfl, trivial⟩ ⟨rfl, rfl, trivial⟩ trivial
    · rw [c1] at hbe
      (repeat (first | refine r_end ?_ | (refine r_op ?_; first | refine r_pure hT rfl rfl rfl rfl rfl rfl ?_ | refine r_off rfl rfl rfl rfl rfl ?_) | refine gi_plain ?_ | refine gi_skip ?_ | refine gi_inBlock ?_ | (refine gi_cnd ?_; first | refine gi_true rfl ?_ | refine gi_false rfl ?_)))
      exact no (hbe.trans rfl) _ _ _ ⟨rfl, rfl, rfl, rfl, rfl, rfl, trivial⟩ ⟨rfl, rfl, trivial⟩ trivial
  · rw [List.length_map] at h3
    have hb : backL x.lk k i = none := backL_none (fun t y hy => hn t (by have := (List.getElem?_eq_some_iff.1 hy).1; omega) y hy)
    (repeat (first | refine r_end ?_ | (refine r_op ?_; first | refine r_pure hT rfl rfl rfl rfl rfl rfl ?_ | refine r_store hT rfl rfl rfl rfl rfl rfl rfl rfl rfl rfl ?_) | refine gi_seq ?_ | refine gi_plain ?_ | refine gi_exit rfl ?_))
    refine gi_retW hT Try.func76 rfl rfl [] rfl rfl rfl rfl ?_
    rw [hb]
    exact ⟨rfl, rfl⟩
end Go.Proofs.Ytmocggibcniggaa.Kt
