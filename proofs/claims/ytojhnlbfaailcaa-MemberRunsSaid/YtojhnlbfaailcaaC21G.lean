/- Part of the proofs of this seat's statements: what the functions compute. No condition. -/
import Derived.Test.YtojhnlbfaailcaaC21F
import Derived.Test.YtojhnlbfaailcaaK3
set_option linter.unusedSimpArgs false
set_option linter.unusedVariables false
namespace Go.Proofs.Ytojhnlbfaailcaa.Kt
open Go Kw Go.Proofs
attribute [local irreducible] Kw.GI Kw.GR Kw.FnR Kw.FnX
set_option maxHeartbeats 4000000
set_option maxRecDepth 100000
theorem eqB_same (n : Int) : eqB n n = true := by rw [eqB_eq]; simp
theorem beqB_same (b : Bool) : beqB b b = true := by rw [beqB_eq]; simp
def lm (g : Int) (m k : Nat) : List En := if k < m then [⟨g, m - k, 0, 0, 0⟩] else []
theorem lm_len (g : Int) (m k : Nat) : (lm g m k).length ≤ 1 := by unfold lm; split <;> simp
theorem lm_srt (g : Int) (m k : Nat) : Srt (lm g m k) := by unfold lm Srt; split; exact List.pairwise_singleton _ _; exact .nil
theorem mm0 : mm true (wr .i64 ((0 : Int) - 1)) 0 = 0 := by rw [wr_i64 (by omega) (by omega)]; unfold mm; decide
theorem dead1 {g : Int} {m k : Nat} (hm : m ≤ 100) (hk : k < m) : dead ⟨g, m - k, 0, 0, 0⟩ ↔ k + 1 = m := by
  unfold dead
  simp only
  rw [wr_i64 (by omega) (by omega)]
  constructor <;> intro h <;> omega
theorem lm_rest (g : Int) (m k : Nat) (hm : m ≤ 100) : (lm g m k).filterMap restF = lm g m (k + 1) := by
  unfold lm
  by_cases h : k < m
  · rw [if_pos h]
    by_cases h2 : k + 1 < m
    · rw [if_pos h2]
      have hd : ¬ dead (⟨g, m - k, 0, 0, 0⟩ : En) := by rw [dead1 hm h]; omega
      rw [List.filterMap_cons_some (b := tkE ⟨g, m - k, 0, 0, 0⟩) (by unfold restF; rw [if_neg hd])]
      unfold tkE due
      simp only [mm0, Int.lt_irrefl, decide_false, Bool.false_and, Bool.false_eq_true, if_false, List.filterMap_nil]
      rw [wr_i64 (by omega) (by omega)]
      congr 2
      omega
    · rw [if_neg h2]
      have hd : dead (⟨g, m - k, 0, 0, 0⟩ : En) := by rw [dead1 hm h]; omega
      rw [List.filterMap_cons_none (by unfold restF; rw [if_pos hd])]
      rfl
  · rw [if_neg h, if_neg (by omega)]
    rfl
theorem lm_gone (g : Int) (m k : Nat) (hm : m ≤ 100) : (lm g m k).filterMap goneF = if k + 1 = m then [g] else [] := by
  unfold lm
  by_cases h : k < m
  · rw [if_pos h]
    by_cases h2 : k + 1 = m
    · rw [if_pos h2]
      have hd : dead (⟨g, m - k, 0, 0, 0⟩ : En) := by rw [dead1 hm h]; omega
      rw [List.filterMap_cons_some (b := g) (by unfold goneF; rw [if_pos hd])]
      rfl
    · rw [if_neg h2]
      have hd : ¬ dead (⟨g, m - k, 0, 0, 0⟩ : En) := by rw [dead1 hm h]; omega
      rw [List.filterMap_cons_none (by unfold goneF; rw [if_neg hd])]
      rfl
  · rw [if_neg h, if_neg (by omega)]
    rfl
theorem Tick2 (l A : List En) (a : Bool) (C : List Int) (hl : l.length < 1000000) (hA : l.filterMap restF = A) (hC : l.filterMap goneF = C) : FnX Try.prog 12 [.box 0 0, Bo a] [hT1 0] [eE l] (fun r H S => r = .tup [.sl 1, .sl 2] ∧ H = [hT1 0] ∧ S = [eE A, eI (l.filterMap (sendF a)), eI C]) := by
  subst hA; subst hC
  exact Tick_ok l a hl
theorem awake21_ok : FnR Try.prog 9 [] (RB true) := by
  refine fnR_intro (T := TT) (n := 26) Try.func9 rfl rfl rfl (fun w Z => ?_)
  (repeat (first | (refine r_end ?_) | (refine r_op ?_; first | refine r_pure hT rfl rfl rfl rfl rfl rfl ?_ | refine r_load hT rfl rfl rfl rfl rfl rfl rfl rfl rfl ?_ | refine r_box rfl rfl rfl rfl rfl rfl rfl rfl rfl ?_ | refine r_store hT rfl rfl rfl rfl rfl rfl rfl rfl rfl rfl ?_ | refine r_off rfl rfl rfl rfl rfl ?_ | refine r_alloc hT rfl rfl rfl rfl rfl rfl rfl rfl rfl ?_ | refine r_lit hT rfl rfl rfl rfl rfl rfl rfl rfl rfl rfl rfl rfl rfl ?_ | refine r_off0 rfl rfl rfl rfl ?_) | (refine gi_seq ?_) | (refine gi_plain ?_) | (refine gi_skip ?_) | (refine gi_block ?_) | (refine gi_inBlock ?_) | (refine gi_exit rfl ?_) | (refine gi_cnd ?_; first | refine gi_true rfl ?_ | refine gi_false rfl ?_) | (refine gi_label ?_)))
  refine r_callX [] [] (New_ok) rfl rfl rfl rfl rfl rfl Try.func10 rfl rfl rfl rfl rfl rfl rfl (pT rfl (sS1 _)) ?_
  rintro r H1 S1 ⟨rfl, rfl, rfl⟩
  (repeat (first | (refine r_end ?_) | (refine r_op ?_; first | refine r_pure hT rfl rfl rfl rfl rfl rfl ?_ | refine r_load hT rfl rfl rfl rfl rfl rfl rfl rfl rfl ?_ | refine r_box rfl rfl rfl rfl rfl rfl rfl rfl rfl ?_ | refine r_store hT rfl rfl rfl rfl rfl rfl rfl rfl rfl rfl ?_ | refine r_off rfl rfl rfl rfl rfl ?_ | refine r_alloc hT rfl rfl rfl rfl rfl rfl rfl rfl rfl ?_ | refine r_lit hT rfl rfl rfl rfl rfl rfl rfl rfl rfl rfl rfl rfl rfl ?_ | refine r_off0 rfl rfl rfl rfl ?_) | (refine gi_seq ?_) | (refine gi_plain ?_) | (refine gi_skip ?_) | (refine gi_block ?_) | (refine gi_inBlock ?_) | (refine gi_exit rfl ?_) | (refine gi_cnd ?_; first | refine gi_true rfl ?_ | refine gi_false rfl ?_) | (refine gi_label ?_)))
  refine r_callX [0] [0] (Report_ok [] 7 false (by simp) .nil) rfl rfl rfl rfl rfl rfl Try.func11 rfl rfl rfl rfl rfl rfl rfl (pT rfl (sS1 _)) ?_
  rintro r H1 S1 ⟨rfl, rfl, rfl⟩
  (repeat (first | (refine r_end ?_) | (refine r_op ?_; first | refine r_pure hT rfl rfl rfl rfl rfl rfl ?_ | refine r_load hT rfl rfl rfl rfl rfl rfl rfl rfl rfl ?_ | refine r_box rfl rfl rfl rfl rfl rfl rfl rfl rfl ?_ | refine r_store hT rfl rfl rfl rfl rfl rfl rfl rfl rfl rfl ?_ | refine r_off rfl rfl rfl rfl rfl ?_ | refine r_alloc hT rfl rfl rfl rfl rfl rfl rfl rfl rfl ?_ | refine r_lit hT rfl rfl rfl rfl rfl rfl rfl rfl rfl rfl rfl rfl rfl ?_ | refine r_off0 rfl rfl rfl rfl ?_) | (refine gi_seq ?_) | (refine gi_plain ?_) | (refine gi_skip ?_) | (refine gi_block ?_) | (refine gi_inBlock ?_) | (refine gi_exit rfl ?_) | (refine gi_cnd ?_; first | refine gi_true rfl ?_ | refine gi_false rfl ?_) | (refine gi_label ?_)))
  refine r_callX [0] [1] (Groups_ok (rep [] 7 false) (by decide)) rfl rfl rfl rfl rfl rfl Try.func15 rfl rfl rfl rfl rfl rfl rfl (pT rfl (sS2 _ _)) ?_
  rintro r H1 S1 ⟨rfl, rfl, rfl⟩
  (repeat (first | (refine r_end ?_) | (refine r_op ?_; first | refine r_pure hT rfl rfl rfl rfl rfl rfl ?_ | refine r_load hT rfl rfl rfl rfl rfl rfl rfl rfl rfl ?_ | refine r_box rfl rfl rfl rfl rfl rfl rfl rfl rfl ?_ | refine r_store hT rfl rfl rfl rfl rfl rfl rfl rfl rfl rfl ?_ | refine r_off rfl rfl rfl rfl rfl ?_ | refine r_alloc hT rfl rfl rfl rfl rfl rfl rfl rfl rfl ?_ | refine r_lit hT rfl rfl rfl rfl rfl rfl rfl rfl rfl rfl rfl rfl rfl ?_ | refine r_off0 rfl rfl rfl rfl ?_) | (refine gi_seq ?_) | (refine gi_plain ?_) | (refine gi_skip ?_) | (refine gi_block ?_) | (refine gi_inBlock ?_) | (refine gi_exit rfl ?_) | (refine gi_cnd ?_; first | refine gi_true rfl ?_ | refine gi_false rfl ?_) | (refine gi_label ?_)))
  refine gi_pick [0] [2] rfl rfl rfl rfl rfl ?_
  refine gi_loop (σ := Nat) (fun k => [(3, I k), (2, I 1), (1, .box 0 0), (0, Bo false)]) (fun _ => [hT1 0]) (fun k => [eE (lm 7 58 k)]) (fun k => k ≤ 58) (fun k => 58 - k) 0 (Nat.zero_le _) ⟨rfl, rfl, rfl, rfl, trivial⟩ ⟨rfl, trivial⟩ ⟨rfl, trivial⟩ (fun _ => rfl) (fun k hk next => ?_)
  have hk' : k ≤ 58 := hk
  (repeat (first | (refine r_end ?_) | (refine r_op ?_; first | refine r_pure hT rfl rfl rfl rfl rfl rfl ?_ | refine r_load hT rfl rfl rfl rfl rfl rfl rfl rfl rfl ?_ | refine r_box rfl rfl rfl rfl rfl rfl rfl rfl rfl ?_ | refine r_store hT rfl rfl rfl rfl rfl rfl rfl rfl rfl rfl ?_ | refine r_off rfl rfl rfl rfl rfl ?_ | refine r_alloc hT rfl rfl rfl rfl rfl rfl rfl rfl rfl ?_ | refine r_lit hT rfl rfl rfl rfl rfl rfl rfl rfl rfl rfl rfl rfl rfl ?_ | refine r_off0 rfl rfl rfl rfl ?_) | (refine gi_seq ?_) | (refine gi_plain ?_) | (refine gi_skip ?_) | (refine gi_block ?_) | (refine gi_inBlock ?_) | (refine gi_exit rfl ?_) | (refine gi_cnd ?_; first | refine gi_true rfl ?_ | refine gi_false rfl ?_) | (refine gi_label ?_)))
  refine gi_lt rfl (fun h1 => ?_) (fun h1 => ?_)
  · (repeat (first | (refine r_end ?_) | (refine r_op ?_; first | refine r_pure hT rfl rfl rfl rfl rfl rfl ?_ | refine r_load hT rfl rfl rfl rfl rfl rfl rfl rfl rfl ?_ | refine r_box rfl rfl rfl rfl rfl rfl rfl rfl rfl ?_ | refine r_store hT rfl rfl rfl rfl rfl rfl rfl rfl rfl rfl ?_ | refine r_off rfl rfl rfl rfl rfl ?_ | refine r_alloc hT rfl rfl rfl rfl rfl rfl rfl rfl rfl ?_ | refine r_lit hT rfl rfl rfl rfl rfl rfl rfl rfl rfl rfl rfl rfl rfl ?_ | refine r_off0 rfl rfl rfl rfl ?_) | (refine gi_seq ?_) | (refine gi_plain ?_) | (refine gi_skip ?_) | (refine gi_block ?_) | (refine gi_inBlock ?_) | (refine gi_exit rfl ?_) | (refine gi_cnd ?_; first | refine gi_true rfl ?_ | refine gi_false rfl ?_) | (refine gi_label ?_)))
    refine r_callX [0] [0] (Tick2 (lm 7 58 k) _ true _ (by have := lm_len 7 58 k; omega) (lm_rest 7 58 k (by omega)) (lm_gone 7 58 k (by omega))) rfl rfl rfl rfl rfl rfl Try.func12 rfl rfl rfl rfl rfl rfl rfl (pT rfl (sS3 _ _ _)) ?_
    rintro r H1 S1 ⟨rfl, rfl, rfl⟩
    (repeat (first | (refine r_end ?_) | (refine r_op ?_; first | refine r_pure hT rfl rfl rfl rfl rfl rfl ?_ | refine r_load hT rfl rfl rfl rfl rfl rfl rfl rfl rfl ?_ | refine r_box rfl rfl rfl rfl rfl rfl rfl rfl rfl ?_ | refine r_store hT rfl rfl rfl rfl rfl rfl rfl rfl rfl rfl ?_ | refine r_off rfl rfl rfl rfl rfl ?_ | refine r_alloc hT rfl rfl rfl rfl rfl rfl rfl rfl rfl ?_ | refine r_lit hT rfl rfl rfl rfl rfl rfl rfl rfl rfl rfl rfl rfl rfl ?_ | refine r_off0 rfl rfl rfl rfl ?_) | (refine gi_seq ?_) | (refine gi_plain ?_) | (refine gi_skip ?_) | (refine gi_block ?_) | (refine gi_inBlock ?_) | (refine gi_exit rfl ?_) | (refine gi_cnd ?_; first | refine gi_true rfl ?_ | refine gi_false rfl ?_) | (refine gi_label ?_)))
    refine gi_pick [0] [1] rfl rfl rfl rfl rfl ?_
    refine next (k + 1) _ _ _ (by omega) (by omega) ⟨?_, rfl, rfl, rfl, trivial⟩ ⟨rfl, trivial⟩ ⟨rfl, trivial⟩
    show some (I (wr .i64 ((k : Int) + 1))) = _
    rw [wr_i64 (by omega) (by omega)]
    simp
  · have : k = 58 := by omega
    subst this
    (repeat (first | (refine r_end ?_) | (refine r_op ?_; first | refine r_pure hT rfl rfl rfl rfl rfl rfl ?_ | refine r_load hT rfl rfl rfl rfl rfl rfl rfl rfl rfl ?_ | refine r_box rfl rfl rfl rfl rfl rfl rfl rfl rfl ?_ | refine r_store hT rfl rfl rfl rfl rfl rfl rfl rfl rfl rfl ?_ | refine r_off rfl rfl rfl rfl rfl ?_ | refine r_alloc hT rfl rfl rfl rfl rfl rfl rfl rfl rfl ?_ | refine r_lit hT rfl rfl rfl rfl rfl rfl rfl rfl rfl rfl rfl rfl rfl ?_ | refine r_off0 rfl rfl rfl rfl ?_) | (refine gi_seq ?_) | (refine gi_plain ?_) | (refine gi_skip ?_) | (refine gi_block ?_) | (refine gi_inBlock ?_) | (refine gi_exit rfl ?_) | (refine gi_cnd ?_; first | refine gi_true rfl ?_ | refine gi_false rfl ?_) | (refine gi_label ?_)))
    refine r_known (d := 20) (b := true) rfl (by show eqB 1 1 = true; rw [eqB_same]) ?_
    (repeat (first | (refine r_end ?_) | (refine r_op ?_; first | refine r_pure hT rfl rfl rfl rfl rfl rfl ?_ | refine r_load hT rfl rfl rfl rfl rfl rfl rfl rfl rfl ?_ | refine r_box rfl rfl rfl rfl rfl rfl rfl rfl rfl ?_ | refine r_store hT rfl rfl rfl rfl rfl rfl rfl rfl rfl rfl ?_ | refine r_off rfl rfl rfl rfl rfl ?_ | refine r_alloc hT rfl rfl rfl rfl rfl rfl rfl rfl rfl ?_ | refine r_lit hT rfl rfl rfl rfl rfl rfl rfl rfl rfl rfl rfl rfl rfl ?_ | refine r_off0 rfl rfl rfl rfl ?_) | (refine gi_seq ?_) | (refine gi_plain ?_) | (refine gi_skip ?_) | (refine gi_block ?_) | (refine gi_inBlock ?_) | (refine gi_exit rfl ?_) | (refine gi_cnd ?_; first | refine gi_true rfl ?_ | refine gi_false rfl ?_) | (refine gi_label ?_)))
    refine r_callX [0] [0] (Groups_ok (lm 7 58 58) (by decide)) rfl rfl rfl rfl rfl rfl Try.func15 rfl rfl rfl rfl rfl rfl rfl (pT rfl (sS2 _ _)) ?_
    rintro r H1 S1 ⟨rfl, rfl, rfl⟩
    (repeat (first | (refine r_end ?_) | (refine r_op ?_; first | refine r_pure hT rfl rfl rfl rfl rfl rfl ?_ | refine r_load hT rfl rfl rfl rfl rfl rfl rfl rfl rfl ?_ | refine r_box rfl rfl rfl rfl rfl rfl rfl rfl rfl ?_ | refine r_store hT rfl rfl rfl rfl rfl rfl rfl rfl rfl rfl ?_ | refine r_off rfl rfl rfl rfl rfl ?_ | refine r_alloc hT rfl rfl rfl rfl rfl rfl rfl rfl rfl ?_ | refine r_lit hT rfl rfl rfl rfl rfl rfl rfl rfl rfl rfl rfl rfl rfl ?_ | refine r_off0 rfl rfl rfl rfl ?_) | (refine gi_seq ?_) | (refine gi_plain ?_) | (refine gi_skip ?_) | (refine gi_block ?_) | (refine gi_inBlock ?_) | (refine gi_exit rfl ?_) | (refine gi_cnd ?_; first | refine gi_true rfl ?_ | refine gi_false rfl ?_) | (refine gi_label ?_)))
    refine gi_retW hT Try.func9 rfl rfl [] rfl rfl rfl rfl ?_
    exact ⟨by show AV.r (.v (.bool (eqB 0 0))) = _; rw [eqB_same], rfl⟩
end Go.Proofs.Ytojhnlbfaailcaa.Kt
