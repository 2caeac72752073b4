/- Part of the proofs of this seat's statements: what the functions compute. No condition. -/
import Derived.Test.YtnenbopcoghmaaaC0W6
import Derived.Test.YtnenbopcoghmaaaC0Q
set_option linter.unusedSimpArgs false
set_option linter.unusedVariables false
namespace Go.Proofs.Ytnenbopcoghmaaa.Kt
open Go Kw Go.Proofs
attribute [local irreducible] Kw.GI Kw.GR Kw.FnR
set_option maxHeartbeats 4000000
set_option maxRecDepth 100000
theorem elig_perm (p : Cd → Bool) {l l' : List Cd} (h : l.Perm l') : elig p l = elig p l' := by
  unfold elig
  induction h with
  | nil => rfl
  | cons x _ ih => rw [List.any_cons, List.any_cons, ih]
  | swap x y l => rw [List.any_cons, List.any_cons, List.any_cons, List.any_cons, ← Bool.or_assoc, ← Bool.or_assoc]; congr 1; exact Bool.or_comm _ _
  | trans _ _ ih1 ih2 => rw [ih1, ih2]
theorem rnd_perm {l l' : List Cd} (h : l.Perm l') : rnd l = rnd l' := by
  unfold rnd
  rw [elig_perm fDes h, elig_perm fBak h, bst_perm fDes h, bst_perm fBak h, bst_perm fOth h]
theorem clm2 : (fun c => decide (clm c = 2)) = fBak := by
  funext c
  unfold clm fBak
  by_cases h1 : c.dr = c.addr <;> by_cases h2 : c.bdr = c.addr <;> simp [h1, h2]
theorem clm1 : (fun c => decide (clm c = 1)) = fDes := by
  funext c
  unfold clm fDes
  by_cases h1 : c.dr = c.addr <;> by_cases h2 : c.bdr = c.addr <;> simp [h1, h2]
theorem fc2 : fClm 2 false = fBak := by
  rw [← clm2]; funext c; unfold fClm; cases decide (clm c = 2) <;> rfl
theorem fc1 : fClm 1 false = fDes := by
  rw [← clm1]; funext c; unfold fClm; cases decide (clm c = 1) <;> rfl
theorem fc1o : fClm 1 true = fOth := by
  funext c
  unfold fClm clm fOth
  by_cases h1 : c.dr = c.addr <;> by_cases h2 : c.bdr = c.addr <;> simp [h1, h2]
theorem rrnd_eq (l : List Cd) : rrnd l = rnd l := by
  unfold rrnd rnd
  rw [clm1, clm2, fc1, fc2, fc1o]
theorem turn_quiet (c : Cd) (x : Int × Int) : turned c x = !quiet c x := by
  unfold turned quiet says
  cases decide (x.1 = c.addr) <;> cases decide (c.dr = c.addr) <;> cases decide (x.2 = c.addr) <;> cases decide (c.bdr = c.addr) <;> rfl
theorem elec_eq (c : Cd) (l : List Cd) : elec c l = relec c l := by
  unfold elec relec
  have h1 : ∀ d, rrnd (l ++ [d]) = rnd (d :: l) := fun d => by rw [rrnd_eq]; exact rnd_perm (List.perm_append_singleton d l)
  rw [h1, h1, turn_quiet]
  cases quiet c (rnd (c :: l)) <;> rfl
theorem awake_ok : FnR Try.prog 15 [] (RB true) := by
  refine fnR_intro (T := TT) (n := 14) Try.func15 rfl rfl rfl (fun w Z => ?_)
  (repeat (first | (refine r_end ?_) | (refine r_op ?_; first | refine r_pure hT rfl rfl rfl rfl rfl rfl ?_ | refine r_load hT rfl rfl rfl rfl rfl rfl rfl rfl rfl ?_ | refine r_box rfl rfl rfl rfl rfl rfl rfl rfl rfl ?_ | refine r_store hT rfl rfl rfl rfl rfl rfl rfl rfl rfl rfl ?_ | refine r_off rfl rfl rfl rfl rfl ?_ | refine r_alloc hT rfl rfl rfl rfl rfl rfl rfl rfl rfl ?_ | refine r_lit hT rfl rfl rfl rfl rfl rfl rfl rfl rfl rfl rfl rfl rfl ?_ | refine r_off0 rfl rfl rfl rfl ?_) | (refine gi_seq ?_) | (refine gi_plain ?_) | (refine gi_skip ?_) | (refine gi_block ?_) | (refine gi_inBlock ?_) | (refine gi_exit rfl ?_) | (refine gi_cnd ?_; first | refine gi_true rfl ?_ | refine gi_false rfl ?_) | (refine gi_label ?_)))
  refine r_call (fnR_args (args' := [Cd.av ⟨1, 9, 1, 0, 0⟩, .r (.v (.slice none 0 0))]) (Elect_ok ⟨1, 9, 1, 0, 0⟩ [] (by simp)) (fun E w us h => ?_)) rfl rfl rfl rfl rfl rfl rfl rfl Try.func16 rfl rfl rfl p2 ?_
  · unfold CL at h ⊢
    obtain ⟨u, r, h1, h2, h3⟩ := h
    unfold CL at h3
    obtain ⟨u', r', h4, h5, h6⟩ := h3
    exact ⟨u, r, h1, h2, by unfold CL; exact ⟨u', r', h4, C_nil_rs h5, h6⟩⟩
  rintro r S1 ⟨rfl, rfl⟩
  (repeat (first | (refine r_end ?_) | (refine r_op ?_; first | refine r_pure hT rfl rfl rfl rfl rfl rfl ?_ | refine r_load hT rfl rfl rfl rfl rfl rfl rfl rfl rfl ?_ | refine r_box rfl rfl rfl rfl rfl rfl rfl rfl rfl ?_ | refine r_store hT rfl rfl rfl rfl rfl rfl rfl rfl rfl rfl ?_ | refine r_off rfl rfl rfl rfl rfl ?_ | refine r_alloc hT rfl rfl rfl rfl rfl rfl rfl rfl rfl ?_ | refine r_lit hT rfl rfl rfl rfl rfl rfl rfl rfl rfl rfl rfl rfl rfl ?_ | refine r_off0 rfl rfl rfl rfl ?_) | (refine gi_seq ?_) | (refine gi_plain ?_) | (refine gi_skip ?_) | (refine gi_block ?_) | (refine gi_inBlock ?_) | (refine gi_exit rfl ?_) | (refine gi_cnd ?_; first | refine gi_true rfl ?_ | refine gi_false rfl ?_) | (refine gi_label ?_)))
  refine r_known (d := 10) (b := true) rfl (by rw [eqB_eq]; decide) ?_
  (repeat (first | (refine r_end ?_) | (refine r_op ?_; first | refine r_pure hT rfl rfl rfl rfl rfl rfl ?_ | refine r_load hT rfl rfl rfl rfl rfl rfl rfl rfl rfl ?_ | refine r_box rfl rfl rfl rfl rfl rfl rfl rfl rfl ?_ | refine r_store hT rfl rfl rfl rfl rfl rfl rfl rfl rfl rfl ?_ | refine r_off rfl rfl rfl rfl rfl ?_ | refine r_alloc hT rfl rfl rfl rfl rfl rfl rfl rfl rfl ?_ | refine r_lit hT rfl rfl rfl rfl rfl rfl rfl rfl rfl rfl rfl rfl rfl ?_ | refine r_off0 rfl rfl rfl rfl ?_) | (refine gi_seq ?_) | (refine gi_plain ?_) | (refine gi_skip ?_) | (refine gi_block ?_) | (refine gi_inBlock ?_) | (refine gi_exit rfl ?_) | (refine gi_cnd ?_; first | refine gi_true rfl ?_ | refine gi_false rfl ?_) | (refine gi_label ?_)))
  refine gi_retW hT Try.func15 rfl rfl [] rfl rfl rfl rfl ?_
  exact ⟨by rw [eqB_eq, show (elec ⟨1, 9, 1, 0, 0⟩ []).2 = 0 by decide]; rfl, rfl⟩
theorem eqB_true {x y : Int} (h : x = y) : eqB x y = true := by simp [eqB_eq, h]
theorem ElectAll_ok (c : Cd) (l : List Cd) : FnR Try.prog 3 [c.av, rsC l] (RB true) := by
  refine fnR_intro (T := TT) (n := 36) Try.func3 rfl rfl rfl (fun w Z => ?_)
  (repeat (first | (refine r_end ?_) | (refine r_op ?_; first | refine r_pure hT rfl rfl rfl rfl rfl rfl ?_ | refine r_load hT rfl rfl rfl rfl rfl rfl rfl rfl rfl ?_ | refine r_box rfl rfl rfl rfl rfl rfl rfl rfl rfl ?_ | refine r_store hT rfl rfl rfl rfl rfl rfl rfl rfl rfl rfl ?_ | refine r_off rfl rfl rfl rfl rfl ?_ | refine r_alloc hT rfl rfl rfl rfl rfl rfl rfl rfl rfl ?_ | refine r_lit hT rfl rfl rfl rfl rfl rfl rfl rfl rfl rfl rfl rfl rfl ?_ | refine r_off0 rfl rfl rfl rfl ?_) | (refine gi_seq ?_) | (refine gi_plain ?_) | (refine gi_skip ?_) | (refine gi_block ?_) | (refine gi_inBlock ?_) | (refine gi_exit rfl ?_) | (refine gi_cnd ?_; first | refine gi_true rfl ?_ | refine gi_false rfl ?_) | (refine gi_label ?_)))
  refine gi_lt (q := ((l.map Cd.row).length : Int)) rfl (fun h1 => ?_) (fun h1 => ?_)
  · (repeat (first | (refine r_end ?_) | (refine r_op ?_; first | refine r_pure hT rfl rfl rfl rfl rfl rfl ?_ | refine r_load hT rfl rfl rfl rfl rfl rfl rfl rfl rfl ?_ | refine r_box rfl rfl rfl rfl rfl rfl rfl rfl rfl ?_ | refine r_store hT rfl rfl rfl rfl rfl rfl rfl rfl rfl rfl ?_ | refine r_off rfl rfl rfl rfl rfl ?_ | refine r_alloc hT rfl rfl rfl rfl rfl rfl rfl rfl rfl ?_ | refine r_lit hT rfl rfl rfl rfl rfl rfl rfl rfl rfl rfl rfl rfl rfl ?_ | refine r_off0 rfl rfl rfl rfl ?_) | (refine gi_seq ?_) | (refine gi_plain ?_) | (refine gi_skip ?_) | (refine gi_block ?_) | (refine gi_inBlock ?_) | (refine gi_exit rfl ?_) | (refine gi_cnd ?_; first | refine gi_true rfl ?_ | refine gi_false rfl ?_) | (refine gi_label ?_)))
    refine r_call (awake_ok) rfl rfl rfl rfl rfl rfl rfl rfl Try.func15 rfl rfl rfl pB ?_
    rintro r S1 ⟨rfl, rfl⟩
    (repeat (first | (refine r_end ?_) | (refine r_op ?_; first | refine r_pure hT rfl rfl rfl rfl rfl rfl ?_ | refine r_load hT rfl rfl rfl rfl rfl rfl rfl rfl rfl ?_ | refine r_box rfl rfl rfl rfl rfl rfl rfl rfl rfl ?_ | refine r_store hT rfl rfl rfl rfl rfl rfl rfl rfl rfl rfl ?_ | refine r_off rfl rfl rfl rfl rfl ?_ | refine r_alloc hT rfl rfl rfl rfl rfl rfl rfl rfl rfl ?_ | refine r_lit hT rfl rfl rfl rfl rfl rfl rfl rfl rfl rfl rfl rfl rfl ?_ | refine r_off0 rfl rfl rfl rfl ?_) | (refine gi_seq ?_) | (refine gi_plain ?_) | (refine gi_skip ?_) | (refine gi_block ?_) | (refine gi_inBlock ?_) | (refine gi_exit rfl ?_) | (refine gi_cnd ?_; first | refine gi_true rfl ?_ | refine gi_false rfl ?_) | (refine gi_label ?_)))
    refine gi_retW hT Try.func3 rfl rfl [] rfl rfl rfl rfl ?_
    exact ⟨rfl, rfl⟩
  · rw [List.length_map] at h1
    (repeat (first | (refine r_end ?_) | (refine r_op ?_; first | refine r_pure hT rfl rfl rfl rfl rfl rfl ?_ | refine r_load hT rfl rfl rfl rfl rfl rfl rfl rfl rfl ?_ | refine r_box rfl rfl rfl rfl rfl rfl rfl rfl rfl ?_ | refine r_store hT rfl rfl rfl rfl rfl rfl rfl rfl rfl rfl ?_ | refine r_off rfl rfl rfl rfl rfl ?_ | refine r_alloc hT rfl rfl rfl rfl rfl rfl rfl rfl rfl ?_ | refine r_lit hT rfl rfl rfl rfl rfl rfl rfl rfl rfl rfl rfl rfl rfl ?_ | refine r_off0 rfl rfl rfl rfl ?_) | (refine gi_seq ?_) | (refine gi_plain ?_) | (refine gi_skip ?_) | (refine gi_block ?_) | (refine gi_inBlock ?_) | (refine gi_exit rfl ?_) | (refine gi_cnd ?_; first | refine gi_true rfl ?_ | refine gi_false rfl ?_) | (refine gi_label ?_)))
    refine r_call (Elect_ok c l (by omega)) rfl rfl rfl rfl rfl rfl rfl rfl Try.func16 rfl rfl rfl p2 ?_
    rintro r S1 ⟨rfl, rfl⟩
    (repeat (first | (refine r_end ?_) | (refine r_op ?_; first | refine r_pure hT rfl rfl rfl rfl rfl rfl ?_ | refine r_load hT rfl rfl rfl rfl rfl rfl rfl rfl rfl ?_ | refine r_box rfl rfl rfl rfl rfl rfl rfl rfl rfl ?_ | refine r_store hT rfl rfl rfl rfl rfl rfl rfl rfl rfl rfl ?_ | refine r_off rfl rfl rfl rfl rfl ?_ | refine r_alloc hT rfl rfl rfl rfl rfl rfl rfl rfl rfl ?_ | refine r_lit hT rfl rfl rfl rfl rfl rfl rfl rfl rfl rfl rfl rfl rfl ?_ | refine r_off0 rfl rfl rfl rfl ?_) | (refine gi_seq ?_) | (refine gi_plain ?_) | (refine gi_skip ?_) | (refine gi_block ?_) | (refine gi_inBlock ?_) | (refine gi_exit rfl ?_) | (refine gi_cnd ?_; first | refine gi_true rfl ?_ | refine gi_false rfl ?_) | (refine gi_label ?_)))
    refine r_call (rElect_ok c l (by omega)) rfl rfl rfl rfl rfl rfl rfl rfl Try.func17 rfl rfl rfl p2 ?_
    rintro r S1 ⟨rfl, rfl⟩
    (repeat (first | (refine r_end ?_) | (refine r_op ?_; first | refine r_pure hT rfl rfl rfl rfl rfl rfl ?_ | refine r_load hT rfl rfl rfl rfl rfl rfl rfl rfl rfl ?_ | refine r_box rfl rfl rfl rfl rfl rfl rfl rfl rfl ?_ | refine r_store hT rfl rfl rfl rfl rfl rfl rfl rfl rfl rfl ?_ | refine r_off rfl rfl rfl rfl rfl ?_ | refine r_alloc hT rfl rfl rfl rfl rfl rfl rfl rfl rfl ?_ | refine r_lit hT rfl rfl rfl rfl rfl rfl rfl rfl rfl rfl rfl rfl rfl ?_ | refine r_off0 rfl rfl rfl rfl ?_) | (refine gi_seq ?_) | (refine gi_plain ?_) | (refine gi_skip ?_) | (refine gi_block ?_) | (refine gi_inBlock ?_) | (refine gi_exit rfl ?_) | (refine gi_cnd ?_; first | refine gi_true rfl ?_ | refine gi_false rfl ?_) | (refine gi_label ?_)))
    refine r_known (d := 28) (b := true) rfl (eqB_true (by rw [elec_eq])) ?_
    (repeat (first | (refine r_end ?_) | (refine r_op ?_; first | refine r_pure hT rfl rfl rfl rfl rfl rfl ?_ | refine r_load hT rfl rfl rfl rfl rfl rfl rfl rfl rfl ?_ | refine r_box rfl rfl rfl rfl rfl rfl rfl rfl rfl ?_ | refine r_store hT rfl rfl rfl rfl rfl rfl rfl rfl rfl rfl ?_ | refine r_off rfl rfl rfl rfl rfl ?_ | refine r_alloc hT rfl rfl rfl rfl rfl rfl rfl rfl rfl ?_ | refine r_lit hT rfl rfl rfl rfl rfl rfl rfl rfl rfl rfl rfl rfl rfl ?_ | refine r_off0 rfl rfl rfl rfl ?_) | (refine gi_seq ?_) | (refine gi_plain ?_) | (refine gi_skip ?_) | (refine gi_block ?_) | (refine gi_inBlock ?_) | (refine gi_exit rfl ?_) | (refine gi_cnd ?_; first | refine gi_true rfl ?_ | refine gi_false rfl ?_) | (refine gi_label ?_)))
    refine r_known (d := 33) (b := true) rfl (eqB_true (by rw [elec_eq])) ?_
    (repeat (first | (refine r_end ?_) | (refine r_op ?_; first | refine r_pure hT rfl rfl rfl rfl rfl rfl ?_ | refine r_load hT rfl rfl rfl rfl rfl rfl rfl rfl rfl ?_ | refine r_box rfl rfl rfl rfl rfl rfl rfl rfl rfl ?_ | refine r_store hT rfl rfl rfl rfl rfl rfl rfl rfl rfl rfl ?_ | refine r_off rfl rfl rfl rfl rfl ?_ | refine r_alloc hT rfl rfl rfl rfl rfl rfl rfl rfl rfl ?_ | refine r_lit hT rfl rfl rfl rfl rfl rfl rfl rfl rfl rfl rfl rfl rfl ?_ | refine r_off0 rfl rfl rfl rfl ?_) | (refine gi_seq ?_) | (refine gi_plain ?_) | (refine gi_skip ?_) | (refine gi_block ?_) | (refine gi_inBlock ?_) | (refine gi_exit rfl ?_) | (refine gi_cnd ?_; first | refine gi_true rfl ?_ | refine gi_false rfl ?_) | (refine gi_label ?_)))
    refine r_call (awake_ok) rfl rfl rfl rfl rfl rfl rfl rfl Try.func15 rfl rfl rfl pB ?_
    rintro r S1 ⟨rfl, rfl⟩
    (repeat (first | (refine r_end ?_) | (refine r_op ?_; first | refine r_pure hT rfl rfl rfl rfl rfl rfl ?_ | refine r_load hT rfl rfl rfl rfl rfl rfl rfl rfl rfl ?_ | refine r_box rfl rfl rfl rfl rfl rfl rfl rfl rfl ?_ | refine r_store hT rfl rfl rfl rfl rfl rfl rfl rfl rfl rfl ?_ | refine r_off rfl rfl rfl rfl rfl ?_ | refine r_alloc hT rfl rfl rfl rfl rfl rfl rfl rfl rfl ?_ | refine r_lit hT rfl rfl rfl rfl rfl rfl rfl rfl rfl rfl rfl rfl rfl ?_ | refine r_off0 rfl rfl rfl rfl ?_) | (refine gi_seq ?_) | (refine gi_plain ?_) | (refine gi_skip ?_) | (refine gi_block ?_) | (refine gi_inBlock ?_) | (refine gi_exit rfl ?_) | (refine gi_cnd ?_; first | refine gi_true rfl ?_ | refine gi_false rfl ?_) | (refine gi_label ?_)))
    refine gi_retW hT Try.func3 rfl rfl [] rfl rfl rfl rfl ?_
    exact ⟨rfl, rfl⟩
end Go.Proofs.Ytnenbopcoghmaaa.Kt
