/- Part of the proofs of this seat's statements: what the functions compute. No condition. -/
import Derived.Test.YtnenbopcoghmaaaC1N13
set_option linter.unusedSimpArgs false
set_option linter.unusedVariables false
namespace Go.Proofs.Ytnenbopcoghmaaa.Kt
open Go Kw Go.Proofs
attribute [local irreducible] Kw.GI Kw.GR Kw.FnR Kw.FnX
set_option maxHeartbeats 4000000
set_option maxRecDepth 100000
theorem sees_b (q : Int) (hq : 1 ≤ q) : elec ⟨1, 50, q, 0, 0⟩ [⟨2, 60, 1, 60, 70⟩, ⟨3, 70, 1, 60, 70⟩] = (60, 70) := by
  have h0 : ¬ q < 1 := by omega
  have h1 : 0 < q := by omega
  have r : rnd [⟨1, 50, q, 0, 0⟩, ⟨2, 60, 1, 60, 70⟩, ⟨3, 70, 1, 60, 70⟩] = (60, 70) := by
    unfold rnd elig bst
    simp [fDes, fBak, fOth, step, h0, h1, adr]
  unfold elec
  rw [r]
  rfl
theorem sees_n (q : Int) (hq : 1 ≤ q) : elec ⟨1, 50, q, 0, 0⟩ [⟨2, 60, 1, 60, 0⟩, ⟨3, 70, 1, 60, 0⟩] = (60, if q = 1 then 70 else 50) := by
  have h0 : ¬ q < 1 := by omega
  have h1 : 0 < q := by omega
  have hb : bt ⟨3, 70, 1, 60, 0⟩ ⟨1, 50, q, 0, 0⟩ = decide (q = 1) := by
    rw [bt_eq]
    simp only
    by_cases h : q = 1
    · subst h; rfl
    · rw [if_pos (fun e => h e.symm), decide_eq_false (by omega), decide_eq_false h]
  have r : rnd [⟨1, 50, q, 0, 0⟩, ⟨2, 60, 1, 60, 0⟩, ⟨3, 70, 1, 60, 0⟩] = (60, if q = 1 then 70 else 50) := by
    unfold rnd elig bst
    by_cases h : q = 1
    · subst h; rfl
    · simp [fDes, fBak, fOth, step, h0, h1, adr, hb, h]
  have r2 : rnd [⟨1, 50, q, 60, 50⟩, ⟨2, 60, 1, 60, 0⟩, ⟨3, 70, 1, 60, 0⟩] = (60, 50) := by
    unfold rnd elig bst
    simp [fDes, fBak, fOth, step, h0, h1, adr]
  unfold elec
  rw [r]
  by_cases h : q = 1
  · rw [if_pos h]; rfl
  · rw [if_neg h, if_pos (by rfl)]
    exact r2
def sn (q : Int) (i : Nat) : Fc := ⟨2, 50, 0, 0, q, 2, 16 - i, 0, 0⟩
theorem sn_begin (q : Int) (hq : 1 ≤ q) : beginF ⟨2, 50, 0, 0, q, 0, 0, 0, 0⟩ = sn q 0 := by
  unfold beginF
  simp only
  rw [if_neg (by decide), if_neg (by omega)]
  rfl
theorem sn_step (q : Int) (i : Nat) (hi : i < 12) : stepF (sn q i) 1 [⟨2, 60, 1, 0, 0, true, 0⟩] = sn q (i + 1) := by
  unfold stepF sn
  simp only
  rw [if_neg (by decide), if_pos ⟨trivial, by omega, rfl⟩, wr_i64 (by omega) (by omega)]
  congr 1
  omega
theorem sn_b (q : Int) (hq : 1 ≤ q) (i : Nat) : stepF (sn q i) 1 [⟨2, 60, 1, 60, 70, true, 0⟩, ⟨3, 70, 1, 60, 70, true, 0⟩] = ⟨2, 50, 0, 0, q, 3, 0, 60, 70⟩ := by
  unfold stepF sn
  simp only
  rw [if_neg (by decide), if_neg (by rintro ⟨_, _, h⟩; exact absurd h (by decide))]
  unfold turnF el stOf
  rw [show cnds (ris [⟨2, 60, 1, 60, 70, true, 0⟩, ⟨3, 70, 1, 60, 70, true, 0⟩]) = [⟨2, 60, 1, 60, 70⟩, ⟨3, 70, 1, 60, 70⟩] from rfl]
  simp only
  rw [sees_b q hq]
  rfl
theorem sn_n (q : Int) (hq : 1 ≤ q) (i : Nat) : stepF (sn q i) 1 [⟨2, 60, 1, 60, 0, true, 0⟩, ⟨3, 70, 1, 60, 0, true, 0⟩] = ⟨2, 50, 0, 0, q, if q = 1 then 3 else 4, 0, 60, if q = 1 then 70 else 50⟩ := by
  unfold stepF sn
  simp only
  rw [if_neg (by decide), if_neg (by rintro ⟨_, _, h⟩; exact absurd h (by decide))]
  unfold turnF el stOf
  rw [show cnds (ris [⟨2, 60, 1, 60, 0, true, 0⟩, ⟨3, 70, 1, 60, 0, true, 0⟩]) = [⟨2, 60, 1, 60, 0⟩, ⟨3, 70, 1, 60, 0⟩] from rfl]
  simp only
  rw [sees_n q hq]
  by_cases h : q = 1
  · simp [h]
  · simp [h]
theorem FaceSees_ok (p n : Int) (b : Bool) (hp : 0 ≤ p ∧ p ≤ 255) (hn : 0 ≤ n ∧ n ≤ 255) : FnR Try.prog 13 [U8 p, U8 n, Bo b] (RB true) := by
  obtain ⟨q, hq, hq1⟩ : ∃ q, wr .i64 (1 + rm (wr .i64 p) 9) = q ∧ 1 ≤ q := by
    rw [wr_i64 (n := p) (by omega) (by omega), rm_pos hp.1, wr_i64 (by omega) (by omega)]
    exact ⟨1 + p % 9, rfl, by omega⟩
  obtain ⟨N, hN, hN10⟩ : ∃ N : Nat, rm (wr .i64 n) 10 = N ∧ N < 10 := by
    rw [wr_i64 (n := n) (by omega) (by omega), rm_pos hn.1]
    exact ⟨(n % 10).toNat, by omega, by omega⟩
  have e1 := Begin_ok ⟨2, 50, 0, 0, wr .i64 (1 + rm (wr .i64 p) 9), 0, 0, 0, 0⟩
  rw [show beginF ⟨2, 50, 0, 0, wr .i64 (1 + rm (wr .i64 p) 9), 0, 0, 0, 0⟩ = sn q 0 from by rw [hq]; exact sn_begin q hq1] at e1
  refine fnR_intro (T := TT) (n := 79) Try.func13 rfl rfl rfl (fun w Z => ?_)
  (repeat (first | (refine r_end ?_) | (refine r_op ?_; first | refine r_pure hT rfl rfl rfl rfl rfl rfl ?_ | refine r_load hT rfl rfl rfl rfl rfl rfl rfl rfl rfl ?_ | refine r_box rfl rfl rfl rfl rfl rfl rfl rfl rfl ?_ | refine r_store hT rfl rfl rfl rfl rfl rfl rfl rfl rfl rfl ?_ | refine r_off rfl rfl rfl rfl rfl ?_ | refine r_alloc hT rfl rfl rfl rfl rfl rfl rfl rfl rfl ?_ | refine r_lit hT rfl rfl rfl rfl rfl rfl rfl rfl rfl rfl rfl rfl rfl ?_ | refine r_off0 rfl rfl rfl rfl ?_) | (refine gi_seq ?_) | (refine gi_plain ?_) | (refine gi_skip ?_) | (refine gi_block ?_) | (refine gi_inBlock ?_) | (refine gi_exit rfl ?_) | (refine gi_cnd ?_; first | refine gi_true rfl ?_ | refine gi_false rfl ?_) | (refine gi_label ?_)))
  refine r_call (e1) rfl rfl rfl rfl rfl rfl rfl rfl Try.func34 rfl rfl rfl pFc ?_
  rintro r S1 ⟨rfl, rfl⟩
  (repeat (first | (refine r_end ?_) | (refine r_op ?_; first | refine r_pure hT rfl rfl rfl rfl rfl rfl ?_ | refine r_load hT rfl rfl rfl rfl rfl rfl rfl rfl rfl ?_ | refine r_box rfl rfl rfl rfl rfl rfl rfl rfl rfl ?_ | refine r_store hT rfl rfl rfl rfl rfl rfl rfl rfl rfl rfl ?_ | refine r_off rfl rfl rfl rfl rfl ?_ | refine r_alloc hT rfl rfl rfl rfl rfl rfl rfl rfl rfl ?_ | refine r_lit hT rfl rfl rfl rfl rfl rfl rfl rfl rfl rfl rfl rfl rfl ?_ | refine r_off0 rfl rfl rfl rfl ?_) | (refine gi_seq ?_) | (refine gi_plain ?_) | (refine gi_skip ?_) | (refine gi_block ?_) | (refine gi_inBlock ?_) | (refine gi_exit rfl ?_) | (refine gi_cnd ?_; first | refine gi_true rfl ?_ | refine gi_false rfl ?_) | (refine gi_label ?_)))
  refine gi_loop (σ := Nat) (fun s => [(8, I s), (7, .box 0 0), (1, U8 n), (2, Bo b), (6, Bo false)]) (fun s => [some (58, (sn q s).cells)]) (fun _ => []) (fun s => s ≤ N) (fun s => N - s) 0 (Nat.zero_le _) ⟨rfl, rfl, rfl, rfl, rfl, trivial⟩ ⟨rfl, trivial⟩ trivial (fun _ => rfl) (fun s hs next => ?_)
  have hs' : s ≤ N := hs
  (repeat (first | (refine r_end ?_) | (refine r_op ?_; first | refine r_pure hT rfl rfl rfl rfl rfl rfl ?_ | refine r_load hT rfl rfl rfl rfl rfl rfl rfl rfl rfl ?_ | refine r_box rfl rfl rfl rfl rfl rfl rfl rfl rfl ?_ | refine r_store hT rfl rfl rfl rfl rfl rfl rfl rfl rfl rfl ?_ | refine r_off rfl rfl rfl rfl rfl ?_ | refine r_alloc hT rfl rfl rfl rfl rfl rfl rfl rfl rfl ?_ | refine r_lit hT rfl rfl rfl rfl rfl rfl rfl rfl rfl rfl rfl rfl rfl ?_ | refine r_off0 rfl rfl rfl rfl ?_) | (refine gi_seq ?_) | (refine gi_plain ?_) | (refine gi_skip ?_) | (refine gi_block ?_) | (refine gi_inBlock ?_) | (refine gi_exit rfl ?_) | (refine gi_cnd ?_; first | refine gi_true rfl ?_ | refine gi_false rfl ?_) | (refine gi_label ?_)))
  refine gi_lt (q := rm (wr .i64 n) 10) rfl (fun h1 => ?_) (fun h1 => ?_) <;> rw [hN] at h1
  · have hsN : s < N := by omega
    have e3 := Step_ok (sn q s) 1 [⟨2, 60, 1, 0, 0, true, 0⟩] (by simp)
    rw [sn_step q s (by omega)] at e3
    (repeat (first | (refine r_end ?_) | (refine r_op ?_; first | refine r_pure hT rfl rfl rfl rfl rfl rfl ?_ | refine r_load hT rfl rfl rfl rfl rfl rfl rfl rfl rfl ?_ | refine r_box rfl rfl rfl rfl rfl rfl rfl rfl rfl ?_ | refine r_store hT rfl rfl rfl rfl rfl rfl rfl rfl rfl rfl ?_ | refine r_off rfl rfl rfl rfl rfl ?_ | refine r_alloc hT rfl rfl rfl rfl rfl rfl rfl rfl rfl ?_ | refine r_lit hT rfl rfl rfl rfl rfl rfl rfl rfl rfl rfl rfl rfl rfl ?_ | refine r_off0 rfl rfl rfl rfl ?_) | (refine gi_seq ?_) | (refine gi_plain ?_) | (refine gi_skip ?_) | (refine gi_block ?_) | (refine gi_inBlock ?_) | (refine gi_exit rfl ?_) | (refine gi_cnd ?_; first | refine gi_true rfl ?_ | refine gi_false rfl ?_) | (refine gi_label ?_)))
    refine r_call (e3) rfl rfl rfl rfl rfl rfl rfl rfl Try.func35 rfl rfl rfl pFc ?_
    rintro r S1 ⟨rfl, rfl⟩
    (repeat (first | (refine r_end ?_) | (refine r_op ?_; first | refine r_pure hT rfl rfl rfl rfl rfl rfl ?_ | refine r_load hT rfl rfl rfl rfl rfl rfl rfl rfl rfl ?_ | refine r_box rfl rfl rfl rfl rfl rfl rfl rfl rfl ?_ | refine r_store hT rfl rfl rfl rfl rfl rfl rfl rfl rfl rfl ?_ | refine r_off rfl rfl rfl rfl rfl ?_ | refine r_alloc hT rfl rfl rfl rfl rfl rfl rfl rfl rfl ?_ | refine r_lit hT rfl rfl rfl rfl rfl rfl rfl rfl rfl rfl rfl rfl rfl ?_ | refine r_off0 rfl rfl rfl rfl ?_) | (refine gi_seq ?_) | (refine gi_plain ?_) | (refine gi_skip ?_) | (refine gi_block ?_) | (refine gi_inBlock ?_) | (refine gi_exit rfl ?_) | (refine gi_cnd ?_; first | refine gi_true rfl ?_ | refine gi_false rfl ?_) | (refine gi_label ?_)))
    refine next (s + 1) _ _ _ hsN (by omega) ⟨?_, rfl, rfl, rfl, rfl, trivial⟩ ⟨rfl, trivial⟩ trivial
    show some (I (wr .i64 ((s : Int) + 1))) = _
    rw [wr_i64 (by omega) (by omega)]
    simp
  · (repeat (first | (refine r_end ?_) | (refine r_op ?_; first | refine r_pure hT rfl rfl rfl rfl rfl rfl ?_ | refine r_load hT rfl rfl rfl rfl rfl rfl rfl rfl rfl ?_ | refine r_box rfl rfl rfl rfl rfl rfl rfl rfl rfl ?_ | refine r_store hT rfl rfl rfl rfl rfl rfl rfl rfl rfl rfl ?_ | refine r_off rfl rfl rfl rfl rfl ?_ | refine r_alloc hT rfl rfl rfl rfl rfl rfl rfl rfl rfl ?_ | refine r_lit hT rfl rfl rfl rfl rfl rfl rfl rfl rfl rfl rfl rfl rfl ?_ | refine r_off0 rfl rfl rfl rfl ?_) | (refine gi_seq ?_) | (refine gi_plain ?_) | (refine gi_skip ?_) | (refine gi_block ?_) | (refine gi_inBlock ?_) | (refine gi_exit rfl ?_) | (refine gi_cnd ?_; first | refine gi_true rfl ?_ | refine gi_false rfl ?_) | (refine gi_label ?_)))
    refine gi_known (d := 29) (b := false) rfl (by rw [notB_eq]; show (!eqB 2 2) = false; rw [eqB_same]; rfl) ?_
    (repeat (first | (refine r_end ?_) | (refine r_op ?_; first | refine r_pure hT rfl rfl rfl rfl rfl rfl ?_ | refine r_load hT rfl rfl rfl rfl rfl rfl rfl rfl rfl ?_ | refine r_box rfl rfl rfl rfl rfl rfl rfl rfl rfl ?_ | refine r_store hT rfl rfl rfl rfl rfl rfl rfl rfl rfl rfl ?_ | refine r_off rfl rfl rfl rfl rfl ?_ | refine r_alloc hT rfl rfl rfl rfl rfl rfl rfl rfl rfl ?_ | refine r_lit hT rfl rfl rfl rfl rfl rfl rfl rfl rfl rfl rfl rfl rfl ?_ | refine r_off0 rfl rfl rfl rfl ?_) | (refine gi_seq ?_) | (refine gi_plain ?_) | (refine gi_skip ?_) | (refine gi_block ?_) | (refine gi_inBlock ?_) | (refine gi_exit rfl ?_) | (refine gi_cnd ?_; first | refine gi_true rfl ?_ | refine gi_false rfl ?_) | (refine gi_label ?_)))
    refine gi_cond rfl (fun hb => ?_) (fun hb => ?_)
    · subst hb
      have e5 := Step_ok (sn q s) 1 [⟨2, 60, 1, 60, 70, true, 0⟩, ⟨3, 70, 1, 60, 70, true, 0⟩] (by simp)
      rw [sn_b q hq1 s] at e5
      (repeat (first | (refine r_end ?_) | (refine r_op ?_; first | refine r_pure hT rfl rfl rfl rfl rfl rfl ?_ | refine r_load hT rfl rfl rfl rfl rfl rfl rfl rfl rfl ?_ | refine r_box rfl rfl rfl rfl rfl rfl rfl rfl rfl ?_ | refine r_store hT rfl rfl rfl rfl rfl rfl rfl rfl rfl rfl ?_ | refine r_off rfl rfl rfl rfl rfl ?_ | refine r_alloc hT rfl rfl rfl rfl rfl rfl rfl rfl rfl ?_ | refine r_lit hT rfl rfl rfl rfl rfl rfl rfl rfl rfl rfl rfl rfl rfl ?_ | refine r_off0 rfl rfl rfl rfl ?_) | (refine gi_seq ?_) | (refine gi_plain ?_) | (refine gi_skip ?_) | (refine gi_block ?_) | (refine gi_inBlock ?_) | (refine gi_exit rfl ?_) | (refine gi_cnd ?_; first | refine gi_true rfl ?_ | refine gi_false rfl ?_) | (refine gi_label ?_)))
      refine r_idxS hT rfl rfl rfl rfl rfl rfl rfl rfl rfl rfl rfl rfl rfl (by decide) (by decide) ?_
      (repeat (first | (refine r_end ?_) | (refine r_op ?_; first | refine r_pure hT rfl rfl rfl rfl rfl rfl ?_ | refine r_load hT rfl rfl rfl rfl rfl rfl rfl rfl rfl ?_ | refine r_box rfl rfl rfl rfl rfl rfl rfl rfl rfl ?_ | refine r_store hT rfl rfl rfl rfl rfl rfl rfl rfl rfl rfl ?_ | refine r_off rfl rfl rfl rfl rfl ?_ | refine r_alloc hT rfl rfl rfl rfl rfl rfl rfl rfl rfl ?_ | refine r_lit hT rfl rfl rfl rfl rfl rfl rfl rfl rfl rfl rfl rfl rfl ?_ | refine r_off0 rfl rfl rfl rfl ?_) | (refine gi_seq ?_) | (refine gi_plain ?_) | (refine gi_skip ?_) | (refine gi_block ?_) | (refine gi_inBlock ?_) | (refine gi_exit rfl ?_) | (refine gi_cnd ?_; first | refine gi_true rfl ?_ | refine gi_false rfl ?_) | (refine gi_label ?_)))
      refine r_storeS (row := Nr.row ⟨2, 60, 1, 60, 0, true, 0⟩) hT rfl rfl rfl rfl rfl rfl rfl rfl rfl rfl rfl rfl rfl rfl ?_
      (repeat (first | (refine r_end ?_) | (refine r_op ?_; first | refine r_pure hT rfl rfl rfl rfl rfl rfl ?_ | refine r_load hT rfl rfl rfl rfl rfl rfl rfl rfl rfl ?_ | refine r_box rfl rfl rfl rfl rfl rfl rfl rfl rfl ?_ | refine r_store hT rfl rfl rfl rfl rfl rfl rfl rfl rfl rfl ?_ | refine r_off rfl rfl rfl rfl rfl ?_ | refine r_alloc hT rfl rfl rfl rfl rfl rfl rfl rfl rfl ?_ | refine r_lit hT rfl rfl rfl rfl rfl rfl rfl rfl rfl rfl rfl rfl rfl ?_ | refine r_off0 rfl rfl rfl rfl ?_) | (refine gi_seq ?_) | (refine gi_plain ?_) | (refine gi_skip ?_) | (refine gi_block ?_) | (refine gi_inBlock ?_) | (refine gi_exit rfl ?_) | (refine gi_cnd ?_; first | refine gi_true rfl ?_ | refine gi_false rfl ?_) | (refine gi_label ?_)))
      refine r_idxS hT rfl rfl rfl rfl rfl rfl rfl rfl rfl rfl rfl rfl rfl (by decide) (by decide) ?_
      (repeat (first | (refine r_end ?_) | (refine r_op ?_; first | refine r_pure hT rfl rfl rfl rfl rfl rfl ?_ | refine r_load hT rfl rfl rfl rfl rfl rfl rfl rfl rfl ?_ | refine r_box rfl rfl rfl rfl rfl rfl rfl rfl rfl ?_ | refine r_store hT rfl rfl rfl rfl rfl rfl rfl rfl rfl rfl ?_ | refine r_off rfl rfl rfl rfl rfl ?_ | refine r_alloc hT rfl rfl rfl rfl rfl rfl rfl rfl rfl ?_ | refine r_lit hT rfl rfl rfl rfl rfl rfl rfl rfl rfl rfl rfl rfl rfl ?_ | refine r_off0 rfl rfl rfl rfl ?_) | (refine gi_seq ?_) | (refine gi_plain ?_) | (refine gi_skip ?_) | (refine gi_block ?_) | (refine gi_inBlock ?_) | (refine gi_exit rfl ?_) | (refine gi_cnd ?_; first | refine gi_true rfl ?_ | refine gi_false rfl ?_) | (refine gi_label ?_)))
      refine r_storeS (row := Nr.row ⟨3, 70, 1, 60, 0, true, 0⟩) hT rfl rfl rfl rfl rfl rfl rfl rfl rfl rfl rfl rfl rfl rfl ?_
      (repeat (first | (refine r_end ?_) | (refine r_op ?_; first | refine r_pure hT rfl rfl rfl rfl rfl rfl ?_ | refine r_load hT rfl rfl rfl rfl rfl rfl rfl rfl rfl ?_ | refine r_box rfl rfl rfl rfl rfl rfl rfl rfl rfl ?_ | refine r_store hT rfl rfl rfl rfl rfl rfl rfl rfl rfl rfl ?_ | refine r_off rfl rfl rfl rfl rfl ?_ | refine r_alloc hT rfl rfl rfl rfl rfl rfl rfl rfl rfl ?_ | refine r_lit hT rfl rfl rfl rfl rfl rfl rfl rfl rfl rfl rfl rfl rfl ?_ | refine r_off0 rfl rfl rfl rfl ?_) | (refine gi_seq ?_) | (refine gi_plain ?_) | (refine gi_skip ?_) | (refine gi_block ?_) | (refine gi_inBlock ?_) | (refine gi_exit rfl ?_) | (refine gi_cnd ?_; first | refine gi_true rfl ?_ | refine gi_false rfl ?_) | (refine gi_label ?_)))
      refine r_call (e5) rfl rfl rfl rfl rfl rfl rfl rfl Try.func35 rfl rfl rfl pFc ?_
      rintro r S1 ⟨rfl, rfl⟩
      (repeat (first | (refine r_end ?_) | (refine r_op ?_; first | refine r_pure hT rfl rfl rfl rfl rfl rfl ?_ | refine r_load hT rfl rfl rfl rfl rfl rfl rfl rfl rfl ?_ | refine r_box rfl rfl rfl rfl rfl rfl rfl rfl rfl ?_ | refine r_store hT rfl rfl rfl rfl rfl rfl rfl rfl rfl rfl ?_ | refine r_off rfl rfl rfl rfl rfl ?_ | refine r_alloc hT rfl rfl rfl rfl rfl rfl rfl rfl rfl ?_ | refine r_lit hT rfl rfl rfl rfl rfl rfl rfl rfl rfl rfl rfl rfl rfl ?_ | refine r_off0 rfl rfl rfl rfl ?_) | (refine gi_seq ?_) | (refine gi_plain ?_) | (refine gi_skip ?_) | (refine gi_block ?_) | (refine gi_inBlock ?_) | (refine gi_exit rfl ?_) | (refine gi_cnd ?_; first | refine gi_true rfl ?_ | refine gi_false rfl ?_) | (refine gi_label ?_)))
      refine gi_known (d := 45) (b := false) rfl (by rw [notB_eq]; show (!eqB 60 60) = false; rw [eqB_same]; rfl) ?_
      (repeat (first | (refine r_end ?_) | (refine r_op ?_; first | refine r_pure hT rfl rfl rfl rfl rfl rfl ?_ | refine r_load hT rfl rfl rfl rfl rfl rfl rfl rfl rfl ?_ | refine r_box rfl rfl rfl rfl rfl rfl rfl rfl rfl ?_ | refine r_store hT rfl rfl rfl rfl rfl rfl rfl rfl rfl rfl ?_ | refine r_off rfl rfl rfl rfl rfl ?_ | refine r_alloc hT rfl rfl rfl rfl rfl rfl rfl rfl rfl ?_ | refine r_lit hT rfl rfl rfl rfl rfl rfl rfl rfl rfl rfl rfl rfl rfl ?_ | refine r_off0 rfl rfl rfl rfl ?_) | (refine gi_seq ?_) | (refine gi_plain ?_) | (refine gi_skip ?_) | (refine gi_block ?_) | (refine gi_inBlock ?_) | (refine gi_exit rfl ?_) | (refine gi_cnd ?_; first | refine gi_true rfl ?_ | refine gi_false rfl ?_) | (refine gi_label ?_)))
      refine r_known (d := 50) (b := true) rfl (by show eqB 3 3 = true; rw [eqB_same]) ?_
      (repeat (first | (refine r_end ?_) | (refine r_op ?_; first | refine r_pure hT rfl rfl rfl rfl rfl rfl ?_ | refine r_load hT rfl rfl rfl rfl rfl rfl rfl rfl rfl ?_ | refine r_box rfl rfl rfl rfl rfl rfl rfl rfl rfl ?_ | refine r_store hT rfl rfl rfl rfl rfl rfl rfl rfl rfl rfl ?_ | refine r_off rfl rfl rfl rfl rfl ?_ | refine r_alloc hT rfl rfl rfl rfl rfl rfl rfl rfl rfl ?_ | refine r_lit hT rfl rfl rfl rfl rfl rfl rfl rfl rfl rfl rfl rfl rfl ?_ | refine r_off0 rfl rfl rfl rfl ?_) | (refine gi_seq ?_) | (refine gi_plain ?_) | (refine gi_skip ?_) | (refine gi_block ?_) | (refine gi_inBlock ?_) | (refine gi_exit rfl ?_) | (refine gi_cnd ?_; first | refine gi_true rfl ?_ | refine gi_false rfl ?_) | (refine gi_label ?_)))
      refine r_known (d := 55) (b := true) rfl (by show eqB 70 70 = true; rw [eqB_same]) ?_
      (repeat (first | (refine r_end ?_) | (refine r_op ?_; first | refine r_pure hT rfl rfl rfl rfl rfl rfl ?_ | refine r_load hT rfl rfl rfl rfl rfl rfl rfl rfl rfl ?_ | refine r_box rfl rfl rfl rfl rfl rfl rfl rfl rfl ?_ | refine r_store hT rfl rfl rfl rfl rfl rfl rfl rfl rfl rfl ?_ | refine r_off rfl rfl rfl rfl rfl ?_ | refine r_alloc hT rfl rfl rfl rfl rfl rfl rfl rfl rfl ?_ | refine r_lit hT rfl rfl rfl rfl rfl rfl rfl rfl rfl rfl rfl rfl rfl ?_ | refine r_off0 rfl rfl rfl rfl ?_) | (refine gi_seq ?_) | (refine gi_plain ?_) | (refine gi_skip ?_) | (refine gi_block ?_) | (refine gi_inBlock ?_) | (refine gi_exit rfl ?_) | (refine gi_cnd ?_; first | refine gi_true rfl ?_ | refine gi_false rfl ?_) | (refine gi_label ?_)))
      refine r_known (d := 60) (b := true) rfl (by show eqB 0 0 = true; rw [eqB_same]) ?_
      (repeat (first | (refine r_end ?_) | (refine r_op ?_; first | refine r_pure hT rfl rfl rfl rfl rfl rfl ?_ | refine r_load hT rfl rfl rfl rfl rfl rfl rfl rfl rfl ?_ | refine r_box rfl rfl rfl rfl rfl rfl rfl rfl rfl ?_ | refine r_store hT rfl rfl rfl rfl rfl rfl rfl rfl rfl rfl ?_ | refine r_off rfl rfl rfl rfl rfl ?_ | refine r_alloc hT rfl rfl rfl rfl rfl rfl rfl rfl rfl ?_ | refine r_lit hT rfl rfl rfl rfl rfl rfl rfl rfl rfl rfl rfl rfl rfl ?_ | refine r_off0 rfl rfl rfl rfl ?_) | (refine gi_seq ?_) | (refine gi_plain ?_) | (refine gi_skip ?_) | (refine gi_block ?_) | (refine gi_inBlock ?_) | (refine gi_exit rfl ?_) | (refine gi_cnd ?_; first | refine gi_true rfl ?_ | refine gi_false rfl ?_) | (refine gi_label ?_)))
      refine r_call (awake12_ok) rfl rfl rfl rfl rfl rfl rfl rfl Try.func36 rfl rfl rfl pB ?_
      rintro r S1 ⟨rfl, rfl⟩
      (repeat (first | (refine r_end ?_) | (refine r_op ?_; first | refine r_pure hT rfl rfl rfl rfl rfl rfl ?_ | refine r_load hT rfl rfl rfl rfl rfl rfl rfl rfl rfl ?_ | refine r_box rfl rfl rfl rfl rfl rfl rfl rfl rfl ?_ | refine r_store hT rfl rfl rfl rfl rfl rfl rfl rfl rfl rfl ?_ | refine r_off rfl rfl rfl rfl rfl ?_ | refine r_alloc hT rfl rfl rfl rfl rfl rfl rfl rfl rfl ?_ | refine r_lit hT rfl rfl rfl rfl rfl rfl rfl rfl rfl rfl rfl rfl rfl ?_ | refine r_off0 rfl rfl rfl rfl ?_) | (refine gi_seq ?_) | (refine gi_plain ?_) | (refine gi_skip ?_) | (refine gi_block ?_) | (refine gi_inBlock ?_) | (refine gi_exit rfl ?_) | (refine gi_cnd ?_; first | refine gi_true rfl ?_ | refine gi_false rfl ?_) | (refine gi_label ?_)))
      refine gi_retW hT Try.func13 rfl rfl [] rfl rfl rfl rfl ?_
      exact ⟨rfl, rfl⟩
    · subst hb
      have e5 := Step_ok (sn q s) 1 [⟨2, 60, 1, 60, 0, true, 0⟩, ⟨3, 70, 1, 60, 0, true, 0⟩] (by simp)
      rw [sn_n q hq1 s] at e5
      (repeat (first | (refine r_end ?_) | (refine r_op ?_; first | refine r_pure hT rfl rfl rfl rfl rfl rfl ?_ | refine r_load hT rfl rfl rfl rfl rfl rfl rfl rfl rfl ?_ | refine r_box rfl rfl rfl rfl rfl rfl rfl rfl rfl ?_ | refine r_store hT rfl rfl rfl rfl rfl rfl rfl rfl rfl rfl ?_ | refine r_off rfl rfl rfl rfl rfl ?_ | refine r_alloc hT rfl rfl rfl rfl rfl rfl rfl rfl rfl ?_ | refine r_lit hT rfl rfl rfl rfl rfl rfl rfl rfl rfl rfl rfl rfl rfl ?_ | refine r_off0 rfl rfl rfl rfl ?_) | (refine gi_seq ?_) | (refine gi_plain ?_) | (refine gi_skip ?_) | (refine gi_block ?_) | (refine gi_inBlock ?_) | (refine gi_exit rfl ?_) | (refine gi_cnd ?_; first | refine gi_true rfl ?_ | refine gi_false rfl ?_) | (refine gi_label ?_)))
      refine r_call (e5) rfl rfl rfl rfl rfl rfl rfl rfl Try.func35 rfl rfl rfl pFc ?_
      rintro r S1 ⟨rfl, rfl⟩
      (repeat (first | (refine r_end ?_) | (refine r_op ?_; first | refine r_pure hT rfl rfl rfl rfl rfl rfl ?_ | refine r_load hT rfl rfl rfl rfl rfl rfl rfl rfl rfl ?_ | refine r_box rfl rfl rfl rfl rfl rfl rfl rfl rfl ?_ | refine r_store hT rfl rfl rfl rfl rfl rfl rfl rfl rfl rfl ?_ | refine r_off rfl rfl rfl rfl rfl ?_ | refine r_alloc hT rfl rfl rfl rfl rfl rfl rfl rfl rfl ?_ | refine r_lit hT rfl rfl rfl rfl rfl rfl rfl rfl rfl rfl rfl rfl rfl ?_ | refine r_off0 rfl rfl rfl rfl ?_) | (refine gi_seq ?_) | (refine gi_plain ?_) | (refine gi_skip ?_) | (refine gi_block ?_) | (refine gi_inBlock ?_) | (refine gi_exit rfl ?_) | (refine gi_cnd ?_; first | refine gi_true rfl ?_ | refine gi_false rfl ?_) | (refine gi_label ?_)))
      refine gi_known (d := 45) (b := false) rfl (by rw [notB_eq]; show (!eqB 60 60) = false; rw [eqB_same]; rfl) ?_
      (repeat (first | (refine r_end ?_) | (refine r_op ?_; first | refine r_pure hT rfl rfl rfl rfl rfl rfl ?_ | refine r_load hT rfl rfl rfl rfl rfl rfl rfl rfl rfl ?_ | refine r_box rfl rfl rfl rfl rfl rfl rfl rfl rfl ?_ | refine r_store hT rfl rfl rfl rfl rfl rfl rfl rfl rfl rfl ?_ | refine r_off rfl rfl rfl rfl rfl ?_ | refine r_alloc hT rfl rfl rfl rfl rfl rfl rfl rfl rfl ?_ | refine r_lit hT rfl rfl rfl rfl rfl rfl rfl rfl rfl rfl rfl rfl rfl ?_ | refine r_off0 rfl rfl rfl rfl ?_) | (refine gi_seq ?_) | (refine gi_plain ?_) | (refine gi_skip ?_) | (refine gi_block ?_) | (refine gi_inBlock ?_) | (refine gi_exit rfl ?_) | (refine gi_cnd ?_; first | refine gi_true rfl ?_ | refine gi_false rfl ?_) | (refine gi_label ?_)))
      refine r_known (d := 66) (b := true) rfl (by rw [notB_eq, eqB_eq]; by_cases h : q = 1 <;> simp [h]) ?_
      (repeat (first | (refine r_end ?_) | (refine r_op ?_; first | refine r_pure hT rfl rfl rfl rfl rfl rfl ?_ | refine r_load hT rfl rfl rfl rfl rfl rfl rfl rfl rfl ?_ | refine r_box rfl rfl rfl rfl rfl rfl rfl rfl rfl ?_ | refine r_store hT rfl rfl rfl rfl rfl rfl rfl rfl rfl rfl ?_ | refine r_off rfl rfl rfl rfl rfl ?_ | refine r_alloc hT rfl rfl rfl rfl rfl rfl rfl rfl rfl ?_ | refine r_lit hT rfl rfl rfl rfl rfl rfl rfl rfl rfl rfl rfl rfl rfl ?_ | refine r_off0 rfl rfl rfl rfl ?_) | (refine gi_seq ?_) | (refine gi_plain ?_) | (refine gi_skip ?_) | (refine gi_block ?_) | (refine gi_inBlock ?_) | (refine gi_exit rfl ?_) | (refine gi_cnd ?_; first | refine gi_true rfl ?_ | refine gi_false rfl ?_) | (refine gi_label ?_)))
      refine r_known (d := 71) (b := true) rfl (by rw [notB_eq, eqB_eq]; by_cases h : q = 1 <;> simp [h]) ?_
      (repeat (first | (refine r_end ?_) | (refine r_op ?_; first | refine r_pure hT rfl rfl rfl rfl rfl rfl ?_ | refine r_load hT rfl rfl rfl rfl rfl rfl rfl rfl rfl ?_ | refine r_box rfl rfl rfl rfl rfl rfl rfl rfl rfl ?_ | refine r_store hT rfl rfl rfl rfl rfl rfl rfl rfl rfl rfl ?_ | refine r_off rfl rfl rfl rfl rfl ?_ | refine r_alloc hT rfl rfl rfl rfl rfl rfl rfl rfl rfl ?_ | refine r_lit hT rfl rfl rfl rfl rfl rfl rfl rfl rfl rfl rfl rfl rfl ?_ | refine r_off0 rfl rfl rfl rfl ?_) | (refine gi_seq ?_) | (refine gi_plain ?_) | (refine gi_skip ?_) | (refine gi_block ?_) | (refine gi_inBlock ?_) | (refine gi_exit rfl ?_) | (refine gi_cnd ?_; first | refine gi_true rfl ?_ | refine gi_false rfl ?_) | (refine gi_label ?_)))
      refine r_known (d := 76) (b := true) rfl (by show eqB 0 0 = true; rw [eqB_same]) ?_
      (repeat (first | (refine r_end ?_) | (refine r_op ?_; first | refine r_pure hT rfl rfl rfl rfl rfl rfl ?_ | refine r_load hT rfl rfl rfl rfl rfl rfl rfl rfl rfl ?_ | refine r_box rfl rfl rfl rfl rfl rfl rfl rfl rfl ?_ | refine r_store hT rfl rfl rfl rfl rfl rfl rfl rfl rfl rfl ?_ | refine r_off rfl rfl rfl rfl rfl ?_ | refine r_alloc hT rfl rfl rfl rfl rfl rfl rfl rfl rfl ?_ | refine r_lit hT rfl rfl rfl rfl rfl rfl rfl rfl rfl rfl rfl rfl rfl ?_ | refine r_off0 rfl rfl rfl rfl ?_) | (refine gi_seq ?_) | (refine gi_plain ?_) | (refine gi_skip ?_) | (refine gi_block ?_) | (refine gi_inBlock ?_) | (refine gi_exit rfl ?_) | (refine gi_cnd ?_; first | refine gi_true rfl ?_ | refine gi_false rfl ?_) | (refine gi_label ?_)))
      refine r_call (awake12_ok) rfl rfl rfl rfl rfl rfl rfl rfl Try.func36 rfl rfl rfl pB ?_
      rintro r S1 ⟨rfl, rfl⟩
      (repeat (first | (refine r_end ?_) | (refine r_op ?_; first | refine r_pure hT rfl rfl rfl rfl rfl rfl ?_ | refine r_load hT rfl rfl rfl rfl rfl rfl rfl rfl rfl ?_ | refine r_box rfl rfl rfl rfl rfl rfl rfl rfl rfl ?_ | refine r_store hT rfl rfl rfl rfl rfl rfl rfl rfl rfl rfl ?_ | refine r_off rfl rfl rfl rfl rfl ?_ | refine r_alloc hT rfl rfl rfl rfl rfl rfl rfl rfl rfl ?_ | refine r_lit hT rfl rfl rfl rfl rfl rfl rfl rfl rfl rfl rfl rfl rfl ?_ | refine r_off0 rfl rfl rfl rfl ?_) | (refine gi_seq ?_) | (refine gi_plain ?_) | (refine gi_skip ?_) | (refine gi_block ?_) | (refine gi_inBlock ?_) | (refine gi_exit rfl ?_) | (refine gi_cnd ?_; first | refine gi_true rfl ?_ | refine gi_false rfl ?_) | (refine gi_label ?_)))
      refine gi_retW hT Try.func13 rfl rfl [] rfl rfl rfl rfl ?_
      exact ⟨rfl, rfl⟩
end Go.Proofs.Ytnenbopcoghmaaa.Kt
