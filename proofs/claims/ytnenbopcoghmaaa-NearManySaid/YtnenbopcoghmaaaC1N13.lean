/- Part of the proofs of this seat's statements: what the functions compute. No condition. -/
import Derived.Test.YtnenbopcoghmaaaC1N12
import Derived.Test.YtnenbopcoghmaaaC0Y6
set_option linter.unusedSimpArgs false
set_option linter.unusedVariables false
namespace Go.Proofs.Ytnenbopcoghmaaa.Kt
open Go Kw Go.Proofs
attribute [local irreducible] Kw.GI Kw.GR Kw.FnR Kw.FnX
set_option maxHeartbeats 4000000
set_option maxRecDepth 100000
theorem elec1 (a p d : Int) (ha : 1 ≤ a) (hp : 1 ≤ p) (hd : d = 0 ∨ d = a) : elec ⟨1, a, p, d, 0⟩ [] = (a, 0) := by
  have h0 : ¬ p < 1 := by omega
  have h1 : 0 < p := by omega
  have h2 : ¬ (0 : Int) = a := by omega
  have h3 : ¬ a = 0 := by omega
  have r2 : ∀ b, rnd [⟨1, a, p, a, b⟩] = (a, 0) := fun b => by
    unfold rnd elig bst
    simp [fDes, fBak, fOth, step, h0, h1, adr]
  rcases hd with rfl | rfl
  · have r1 : rnd [⟨1, a, p, 0, 0⟩] = (a, a) := by
      unfold rnd elig bst
      simp [fDes, fBak, fOth, step, h0, h1, h2, adr]
    unfold elec
    rw [r1]
    simp only [upd, r2]
    simp [turned, says, h2]
  · unfold elec
    simp only [upd, r2]
    split <;> rfl
theorem elec0 (a : Int) (ha : 1 ≤ a) : elec ⟨1, a, 0, 0, 0⟩ [] = (0, 0) := by
  have h2 : ¬ (0 : Int) = a := by omega
  have r1 : rnd [⟨1, a, 0, 0, 0⟩] = (0, 0) := by unfold rnd elig bst; simp [fDes, fBak, fOth, step, adr]
  unfold elec
  rw [r1]
  simp [turned, says, h2]
def fst (a p : Int) (i : Nat) : Fc := if p = 0 then ⟨2, a, 0, 0, 0, 3, 0, 0, 0⟩ else if i < 16 then ⟨2, a, 0, 0, p, 2, 16 - i, 0, 0⟩ else ⟨2, a, 0, 0, p, 5, 0, a, 0⟩
def gst (a p : Int) : Fc := ⟨1, a, 0, 0, p, 1, 0, 0, 0⟩
theorem fst_begin (a p : Int) (hp : 0 ≤ p) : beginF ⟨2, a, 0, 0, p, 0, 0, 0, 0⟩ = fst a p 0 := by
  unfold beginF fst
  simp only
  rw [if_neg (by decide)]
  by_cases h : p = 0
  · subst h; rfl
  · rw [if_neg (by omega), if_neg h]; rfl
theorem gst_begin (a p : Int) : beginF ⟨1, a, 0, 0, p, 0, 0, 0, 0⟩ = gst a p := rfl
theorem gst_step (a p : Int) : stepF (gst a p) 1 [] = gst a p := rfl
theorem fst_step (a p : Int) (i : Nat) (ha : 1 ≤ a) (hp : 0 ≤ p) (hi : i < 100) : stepF (fst a p i) 1 [] = fst a p (i + 1) := by
  have ha0 : ¬ a = 0 := by omega
  have h00 : ¬ (0 : Int) = a := by omega
  unfold fst
  by_cases h : p = 0
  · simp only [if_pos h]
    unfold stepF
    rw [if_neg (show ¬ ((3 : Int) = 1) by decide), if_neg (by rintro ⟨h, _⟩; exact absurd (show (3 : Int) = 2 from h) (by decide))]
    unfold turnF el stOf
    rw [show cnds (ris []) = [] from rfl]
    simp only
    rw [elec0 a ha]
    simp [ha0, h00]
  · simp only [if_neg h]
    by_cases h1 : i + 1 < 16
    · rw [if_pos (by omega), if_pos h1]
      unfold stepF
      simp only
      rw [if_neg (by decide), if_pos ⟨trivial, by omega, rfl⟩, wr_i64 (by omega) (by omega)]
      congr 1
      omega
    · rw [if_neg h1]
      by_cases h2 : i < 16
      · rw [if_pos h2]
        unfold stepF
        simp only
        rw [if_neg (by decide), if_neg (by rintro ⟨_, h, _⟩; omega)]
        unfold turnF el stOf
        rw [show cnds (ris []) = [] from rfl]
        simp only
        rw [elec1 a p 0 ha (by omega) (.inl rfl)]
        simp [ha0]
      · rw [if_neg h2]
        unfold stepF
        simp only
        rw [if_neg (by decide), if_neg (by rintro ⟨h, _⟩; exact absurd h (by decide))]
        unfold turnF el stOf
        rw [show cnds (ris []) = [] from rfl]
        simp only
        rw [elec1 a p a ha (by omega) (.inr rfl)]
        simp [ha0]
theorem fst_bdr (a p : Int) (i : Nat) : (fst a p i).bdr = 0 := by unfold fst; split; rfl; split <;> rfl
namespace U
theorem y3 : tyOf Try.prog 3 = some ⟨false, 1, 8, [.int .i64 0], [], none, some .i64, false, false, false⟩ := by kernel_rfl
theorem y4 : tyOf Try.prog 4 = some ⟨false, 1, 1, [.bool false], [], none, none, true, false, false⟩ := by kernel_rfl
theorem y5 : tyOf Try.prog 5 = some ⟨false, 1, 1, [.int .u8 0], [], none, some .u8, false, false, false⟩ := by kernel_rfl
theorem y42 : tyOf Try.prog 42 = some ⟨false, 1, 24, [.slice none 0 0], [], some 47, none, false, false, false⟩ := by kernel_rfl
theorem y47 : tyOf Try.prog 47 = some ⟨true, 7, 56, [.int .i64 0, .int .i64 0, .int .i64 0, .int .i64 0, .int .i64 0, .bool false, .int .i64 0], [(0,1,false), (1,1,false), (2,1,false), (3,1,false), (4,1,false), (5,1,false), (6,1,false)], none, none, false, false, true⟩ := by kernel_rfl
theorem y56 : tyOf Try.prog 56 = some ⟨false, 1, 2, [.int .u16 0], [], none, some .u16, false, false, false⟩ := by kernel_rfl
theorem y58 : tyOf Try.prog 58 = some ⟨true, 9, 72, [.int .i64 0, .int .i64 0, .int .i64 0, .int .i64 0, .int .i64 0, .int .i64 0, .int .i64 0, .int .i64 0, .int .i64 0], [(0,1,false), (1,1,false), (2,1,false), (3,1,false), (4,1,false), (5,1,false), (6,1,false), (7,1,false), (8,1,false)], none, none, false, false, true⟩ := by kernel_rfl
def TT : Tab := [(3, ⟨false, 1, 8, [.int .i64 0], [], none, some .i64, false, false, false⟩), (4, ⟨false, 1, 1, [.bool false], [], none, none, true, false, false⟩), (5, ⟨false, 1, 1, [.int .u8 0], [], none, some .u8, false, false, false⟩), (42, ⟨false, 1, 24, [.slice none 0 0], [], some 47, none, false, false, false⟩), (47, ⟨true, 7, 56, [.int .i64 0, .int .i64 0, .int .i64 0, .int .i64 0, .int .i64 0, .bool false, .int .i64 0], [(0,1,false), (1,1,false), (2,1,false), (3,1,false), (4,1,false), (5,1,false), (6,1,false)], none, none, false, false, true⟩), (56, ⟨false, 1, 2, [.int .u16 0], [], none, some .u16, false, false, false⟩), (58, ⟨true, 9, 72, [.int .i64 0, .int .i64 0, .int .i64 0, .int .i64 0, .int .i64 0, .int .i64 0, .int .i64 0, .int .i64 0, .int .i64 0], [(0,1,false), (1,1,false), (2,1,false), (3,1,false), (4,1,false), (5,1,false), (6,1,false), (7,1,false), (8,1,false)], none, none, false, false, true⟩)]
theorem hT : TabOk Try.prog TT := .cons y3 (.cons y4 (.cons y5 (.cons y42 (.cons y47 (.cons y56 (.cons y58 (.nil _)))))))
theorem hm : Try.prog.follows .mixedOrders = true := by kernel_rfl
theorem FaceAlone_ok (a p n : Int) (ha : 0 ≤ a ∧ a ≤ 65535) (hp : 0 ≤ p ∧ p ≤ 255) (hn : 0 ≤ n ∧ n ≤ 255) : FnR Try.prog 12 [.r (.v (.int .u16 a)), U8 p, U8 n] (RB true) := by
  have hA : wr .i64 (1 + wr .i64 a) = 1 + a := by rw [wr_i64 (n := a) (by omega) (by omega), wr_i64 (by omega) (by omega)]
  obtain ⟨A, rfl, hA1⟩ : ∃ A, a = A - 1 ∧ 1 ≤ A := ⟨a + 1, by omega, by omega⟩
  have hA : wr .i64 (1 + wr .i64 (A - 1)) = A := by rw [hA]; omega
  obtain ⟨q, hq, hq0⟩ : ∃ q, rm (wr .i64 p) 3 = q ∧ 0 ≤ q := by
    rw [wr_i64 (n := p) (by omega) (by omega), rm_pos hp.1]
    exact ⟨p % 3, rfl, by omega⟩
  obtain ⟨N, hN, hN40⟩ : ∃ N : Nat, rm (wr .i64 n) 40 = N ∧ N < 40 := by
    rw [wr_i64 (n := n) (by omega) (by omega), rm_pos hn.1]
    exact ⟨(n % 40).toNat, by omega, by omega⟩
  have e1 := Begin_ok ⟨2, wr .i64 (1 + wr .i64 (A - 1)), 0, 0, rm (wr .i64 p) 3, 0, 0, 0, 0⟩
  rw [show beginF ⟨2, wr .i64 (1 + wr .i64 (A - 1)), 0, 0, rm (wr .i64 p) 3, 0, 0, 0, 0⟩ = fst A q 0 from by rw [hA, hq]; exact fst_begin A q hq0] at e1
  have e2 := Begin_ok ⟨1, wr .i64 (1 + wr .i64 (A - 1)), 0, 0, rm (wr .i64 p) 3, 0, 0, 0, 0⟩
  rw [show beginF ⟨1, wr .i64 (1 + wr .i64 (A - 1)), 0, 0, rm (wr .i64 p) 3, 0, 0, 0, 0⟩ = gst A q from by rw [hA, hq]; exact gst_begin A q] at e2
  refine fnR_intro (T := TT) (n := 74) Try.func12 rfl rfl rfl (fun w Z => ?_)
  (repeat (first | (refine r_end ?_) | (refine r_op ?_; first | refine r_pure hT rfl rfl rfl rfl rfl rfl ?_ | refine r_load hT rfl rfl rfl rfl rfl rfl rfl rfl rfl ?_ | refine r_box rfl rfl rfl rfl rfl rfl rfl rfl rfl ?_ | refine r_store hT rfl rfl rfl rfl rfl rfl rfl rfl rfl rfl ?_ | refine r_off rfl rfl rfl rfl rfl ?_ | refine r_alloc hT rfl rfl rfl rfl rfl rfl rfl rfl rfl ?_ | refine r_lit hT rfl rfl rfl rfl rfl rfl rfl rfl rfl rfl rfl rfl rfl ?_ | refine r_off0 rfl rfl rfl rfl ?_) | (refine gi_seq ?_) | (refine gi_plain ?_) | (refine gi_skip ?_) | (refine gi_block ?_) | (refine gi_inBlock ?_) | (refine gi_exit rfl ?_) | (refine gi_cnd ?_; first | refine gi_true rfl ?_ | refine gi_false rfl ?_) | (refine gi_label ?_)))
  refine r_call (e1) rfl rfl rfl rfl rfl rfl rfl rfl Try.func34 rfl rfl rfl pFc ?_
  rintro r S1 ⟨rfl, rfl⟩
  (repeat (first | (refine r_end ?_) | (refine r_op ?_; first | refine r_pure hT rfl rfl rfl rfl rfl rfl ?_ | refine r_load hT rfl rfl rfl rfl rfl rfl rfl rfl rfl ?_ | refine r_box rfl rfl rfl rfl rfl rfl rfl rfl rfl ?_ | refine r_store hT rfl rfl rfl rfl rfl rfl rfl rfl rfl rfl ?_ | refine r_off rfl rfl rfl rfl rfl ?_ | refine r_alloc hT rfl rfl rfl rfl rfl rfl rfl rfl rfl ?_ | refine r_lit hT rfl rfl rfl rfl rfl rfl rfl rfl rfl rfl rfl rfl rfl ?_ | refine r_off0 rfl rfl rfl rfl ?_) | (refine gi_seq ?_) | (refine gi_plain ?_) | (refine gi_skip ?_) | (refine gi_block ?_) | (refine gi_inBlock ?_) | (refine gi_exit rfl ?_) | (refine gi_cnd ?_; first | refine gi_true rfl ?_ | refine gi_false rfl ?_) | (refine gi_label ?_)))
  refine r_call (e2) rfl rfl rfl rfl rfl rfl rfl rfl Try.func34 rfl rfl rfl pFc ?_
  rintro r S1 ⟨rfl, rfl⟩
  (repeat (first | (refine r_end ?_) | (refine r_op ?_; first | refine r_pure hT rfl rfl rfl rfl rfl rfl ?_ | refine r_load hT rfl rfl rfl rfl rfl rfl rfl rfl rfl ?_ | refine r_box rfl rfl rfl rfl rfl rfl rfl rfl rfl ?_ | refine r_store hT rfl rfl rfl rfl rfl rfl rfl rfl rfl rfl ?_ | refine r_off rfl rfl rfl rfl rfl ?_ | refine r_alloc hT rfl rfl rfl rfl rfl rfl rfl rfl rfl ?_ | refine r_lit hT rfl rfl rfl rfl rfl rfl rfl rfl rfl rfl rfl rfl rfl ?_ | refine r_off0 rfl rfl rfl rfl ?_) | (refine gi_seq ?_) | (refine gi_plain ?_) | (refine gi_skip ?_) | (refine gi_block ?_) | (refine gi_inBlock ?_) | (refine gi_exit rfl ?_) | (refine gi_cnd ?_; first | refine gi_true rfl ?_ | refine gi_false rfl ?_) | (refine gi_label ?_)))
  refine gi_loop (σ := Nat) (fun s => [(9, I (s + 1)), (7, .box 0 0), (8, .box 1 0), (0, .r (.v (.int .u16 (A - 1)))), (1, U8 p), (2, U8 n), (6, Bo false)]) (fun s => [some (58, (fst A q s).cells), some (58, (gst A q).cells)]) (fun _ => []) (fun s => s ≤ N) (fun s => N - s) 0 (Nat.zero_le _) ⟨rfl, rfl, rfl, rfl, rfl, rfl, rfl, trivial⟩ ⟨rfl, rfl, trivial⟩ trivial (fun _ => rfl) (fun s hs next => ?_)
  have hs' : s ≤ N := hs
  (repeat (first | (refine r_end ?_) | (refine r_op ?_; first | refine r_pure hT rfl rfl rfl rfl rfl rfl ?_ | refine r_load hT rfl rfl rfl rfl rfl rfl rfl rfl rfl ?_ | refine r_box rfl rfl rfl rfl rfl rfl rfl rfl rfl ?_ | refine r_store hT rfl rfl rfl rfl rfl rfl rfl rfl rfl rfl ?_ | refine r_off rfl rfl rfl rfl rfl ?_ | refine r_alloc hT rfl rfl rfl rfl rfl rfl rfl rfl rfl ?_ | refine r_lit hT rfl rfl rfl rfl rfl rfl rfl rfl rfl rfl rfl rfl rfl ?_ | refine r_off0 rfl rfl rfl rfl ?_) | (refine gi_seq ?_) | (refine gi_plain ?_) | (refine gi_skip ?_) | (refine gi_block ?_) | (refine gi_inBlock ?_) | (refine gi_exit rfl ?_) | (refine gi_cnd ?_; first | refine gi_true rfl ?_ | refine gi_false rfl ?_) | (refine gi_label ?_)))
  refine gi_cond rfl (fun h1 => ?_) (fun h1 => ?_) <;> rw [hN, leB_eq] at h1
  · have h1 := of_decide_eq_true h1
    have hsN : s < N := by omega
    have e3 := Step_nil (fst A q s) 1
    rw [fst_step A q s hA1 hq0 (by omega)] at e3
    have e4 := Step_nil (gst A q) 1
    rw [gst_step A q] at e4
    (repeat (first | (refine r_end ?_) | (refine r_op ?_; first | refine r_pure hT rfl rfl rfl rfl rfl rfl ?_ | refine r_load hT rfl rfl rfl rfl rfl rfl rfl rfl rfl ?_ | refine r_box rfl rfl rfl rfl rfl rfl rfl rfl rfl ?_ | refine r_store hT rfl rfl rfl rfl rfl rfl rfl rfl rfl rfl ?_ | refine r_off rfl rfl rfl rfl rfl ?_ | refine r_alloc hT rfl rfl rfl rfl rfl rfl rfl rfl rfl ?_ | refine r_lit hT rfl rfl rfl rfl rfl rfl rfl rfl rfl rfl rfl rfl rfl ?_ | refine r_off0 rfl rfl rfl rfl ?_) | (refine gi_seq ?_) | (refine gi_plain ?_) | (refine gi_skip ?_) | (refine gi_block ?_) | (refine gi_inBlock ?_) | (refine gi_exit rfl ?_) | (refine gi_cnd ?_; first | refine gi_true rfl ?_ | refine gi_false rfl ?_) | (refine gi_label ?_)))
    refine r_call (e3) rfl rfl rfl rfl rfl rfl rfl rfl Try.func35 rfl rfl rfl pFc ?_
    rintro r S1 ⟨rfl, rfl⟩
    (repeat (first | (refine r_end ?_) | (refine r_op ?_; first | refine r_pure hT rfl rfl rfl rfl rfl rfl ?_ | refine r_load hT rfl rfl rfl rfl rfl rfl rfl rfl rfl ?_ | refine r_box rfl rfl rfl rfl rfl rfl rfl rfl rfl ?_ | refine r_store hT rfl rfl rfl rfl rfl rfl rfl rfl rfl rfl ?_ | refine r_off rfl rfl rfl rfl rfl ?_ | refine r_alloc hT rfl rfl rfl rfl rfl rfl rfl rfl rfl ?_ | refine r_lit hT rfl rfl rfl rfl rfl rfl rfl rfl rfl rfl rfl rfl rfl ?_ | refine r_off0 rfl rfl rfl rfl ?_) | (refine gi_seq ?_) | (refine gi_plain ?_) | (refine gi_skip ?_) | (refine gi_block ?_) | (refine gi_inBlock ?_) | (refine gi_exit rfl ?_) | (refine gi_cnd ?_; first | refine gi_true rfl ?_ | refine gi_false rfl ?_) | (refine gi_label ?_)))
    refine r_call (e4) rfl rfl rfl rfl rfl rfl rfl rfl Try.func35 rfl rfl rfl pFc ?_
    rintro r S1 ⟨rfl, rfl⟩
    (repeat (first | (refine r_end ?_) | (refine r_op ?_; first | refine r_pure hT rfl rfl rfl rfl rfl rfl ?_ | refine r_load hT rfl rfl rfl rfl rfl rfl rfl rfl rfl ?_ | refine r_box rfl rfl rfl rfl rfl rfl rfl rfl rfl ?_ | refine r_store hT rfl rfl rfl rfl rfl rfl rfl rfl rfl rfl ?_ | refine r_off rfl rfl rfl rfl rfl ?_ | refine r_alloc hT rfl rfl rfl rfl rfl rfl rfl rfl rfl ?_ | refine r_lit hT rfl rfl rfl rfl rfl rfl rfl rfl rfl rfl rfl rfl rfl ?_ | refine r_off0 rfl rfl rfl rfl ?_) | (refine gi_seq ?_) | (refine gi_plain ?_) | (refine gi_skip ?_) | (refine gi_block ?_) | (refine gi_inBlock ?_) | (refine gi_exit rfl ?_) | (refine gi_cnd ?_; first | refine gi_true rfl ?_ | refine gi_false rfl ?_) | (refine gi_label ?_)))
    apply gi_cut (σ := Unit) (fun _ => [(10, I (fst A q (s + 1)).state), (11, I (fst A q (s + 1)).dr), (9, I (s + 1)), (7, .box 0 0), (8, .box 1 0), (0, .r (.v (.int .u16 (A - 1)))), (1, U8 p), (2, U8 n), (6, Bo false)]) (fun _ => [some (58, (fst A q (s + 1)).cells), some (58, (gst A q).cells)]) (fun _ => []) (fun _ => True) (fun _ => rfl)
    case first =>
      intro fin
      refine gi_cond rfl (fun h2 => ?_) (fun h2 => ?_) <;> rw [leB_eq] at h2
      · have h2 := of_decide_eq_true h2
        (repeat (first | (refine r_end ?_) | (refine r_op ?_; first | refine r_pure hT rfl rfl rfl rfl rfl rfl ?_ | refine r_load hT rfl rfl rfl rfl rfl rfl rfl rfl rfl ?_ | refine r_box rfl rfl rfl rfl rfl rfl rfl rfl rfl ?_ | refine r_store hT rfl rfl rfl rfl rfl rfl rfl rfl rfl rfl ?_ | refine r_off rfl rfl rfl rfl rfl ?_ | refine r_alloc hT rfl rfl rfl rfl rfl rfl rfl rfl rfl ?_ | refine r_lit hT rfl rfl rfl rfl rfl rfl rfl rfl rfl rfl rfl rfl rfl ?_ | refine r_off0 rfl rfl rfl rfl ?_) | (refine gi_seq ?_) | (refine gi_plain ?_) | (refine gi_skip ?_) | (refine gi_block ?_) | (refine gi_inBlock ?_) | (refine gi_exit rfl ?_) | (refine gi_cnd ?_; first | refine gi_true rfl ?_ | refine gi_false rfl ?_) | (refine gi_label ?_)))
        refine gi_eq rfl (fun h3 => ?_) (fun h3 => ?_) <;> rw [hq] at h3
        · (repeat (first | (refine r_end ?_) | (refine r_op ?_; first | refine r_pure hT rfl rfl rfl rfl rfl rfl ?_ | refine r_load hT rfl rfl rfl rfl rfl rfl rfl rfl rfl ?_ | refine r_box rfl rfl rfl rfl rfl rfl rfl rfl rfl ?_ | refine r_store hT rfl rfl rfl rfl rfl rfl rfl rfl rfl rfl ?_ | refine r_off rfl rfl rfl rfl rfl ?_ | refine r_alloc hT rfl rfl rfl rfl rfl rfl rfl rfl rfl ?_ | refine r_lit hT rfl rfl rfl rfl rfl rfl rfl rfl rfl rfl rfl rfl rfl ?_ | refine r_off0 rfl rfl rfl rfl ?_) | (refine gi_seq ?_) | (refine gi_plain_ne 15 rfl ?_) | (refine gi_skip ?_) | (refine gi_block ?_) | (refine gi_inBlock ?_) | (refine gi_exit rfl ?_) | (refine gi_cnd ?_; first | refine gi_true rfl ?_ | refine gi_false rfl ?_) | (refine gi_label ?_)))
          exact fin () _ _ _ trivial ⟨by unfold fst; rw [if_pos h3]; rfl, by unfold fst; rw [if_pos h3]; rfl, rfl, rfl, rfl, rfl, rfl, rfl, rfl, trivial⟩ ⟨rfl, rfl, trivial⟩ trivial
        · (repeat (first | (refine r_end ?_) | (refine r_op ?_; first | refine r_pure hT rfl rfl rfl rfl rfl rfl ?_ | refine r_load hT rfl rfl rfl rfl rfl rfl rfl rfl rfl ?_ | refine r_box rfl rfl rfl rfl rfl rfl rfl rfl rfl ?_ | refine r_store hT rfl rfl rfl rfl rfl rfl rfl rfl rfl rfl ?_ | refine r_off rfl rfl rfl rfl rfl ?_ | refine r_alloc hT rfl rfl rfl rfl rfl rfl rfl rfl rfl ?_ | refine r_lit hT rfl rfl rfl rfl rfl rfl rfl rfl rfl rfl rfl rfl rfl ?_ | refine r_off0 rfl rfl rfl rfl ?_) | (refine gi_seq ?_) | (refine gi_plain_ne 15 rfl ?_) | (refine gi_skip ?_) | (refine gi_block ?_) | (refine gi_inBlock ?_) | (refine gi_exit rfl ?_) | (refine gi_cnd ?_; first | refine gi_true rfl ?_ | refine gi_false rfl ?_) | (refine gi_label ?_)))
          exact fin () _ _ _ trivial ⟨by unfold fst; rw [if_neg h3, if_neg (by omega)]; rfl, by unfold fst; rw [if_neg h3, if_neg (by omega)]; show some (I (wr .i64 (1 + wr .i64 (A - 1)))) = _; rw [hA], rfl, rfl, rfl, rfl, rfl, rfl, rfl, trivial⟩ ⟨rfl, rfl, trivial⟩ trivial
      · have h2 := of_decide_eq_false h2
        (repeat (first | (refine r_end ?_) | (refine r_op ?_; first | refine r_pure hT rfl rfl rfl rfl rfl rfl ?_ | refine r_load hT rfl rfl rfl rfl rfl rfl rfl rfl rfl ?_ | refine r_box rfl rfl rfl rfl rfl rfl rfl rfl rfl ?_ | refine r_store hT rfl rfl rfl rfl rfl rfl rfl rfl rfl rfl ?_ | refine r_off rfl rfl rfl rfl rfl ?_ | refine r_alloc hT rfl rfl rfl rfl rfl rfl rfl rfl rfl ?_ | refine r_lit hT rfl rfl rfl rfl rfl rfl rfl rfl rfl rfl rfl rfl rfl ?_ | refine r_off0 rfl rfl rfl rfl ?_) | (refine gi_seq ?_) | (refine gi_plain ?_) | (refine gi_skip ?_) | (refine gi_block ?_) | (refine gi_inBlock ?_) | (refine gi_exit rfl ?_) | (refine gi_cnd ?_; first | refine gi_true rfl ?_ | refine gi_false rfl ?_) | (refine gi_label ?_)))
        refine gi_eq rfl (fun h3 => ?_) (fun h3 => ?_) <;> rw [hq] at h3
        · (repeat (first | (refine r_end ?_) | (refine r_op ?_; first | refine r_pure hT rfl rfl rfl rfl rfl rfl ?_ | refine r_load hT rfl rfl rfl rfl rfl rfl rfl rfl rfl ?_ | refine r_box rfl rfl rfl rfl rfl rfl rfl rfl rfl ?_ | refine r_store hT rfl rfl rfl rfl rfl rfl rfl rfl rfl rfl ?_ | refine r_off rfl rfl rfl rfl rfl ?_ | refine r_alloc hT rfl rfl rfl rfl rfl rfl rfl rfl rfl ?_ | refine r_lit hT rfl rfl rfl rfl rfl rfl rfl rfl rfl rfl rfl rfl rfl ?_ | refine r_off0 rfl rfl rfl rfl ?_) | (refine gi_seq ?_) | (refine gi_plain_ne 15 rfl ?_) | (refine gi_skip ?_) | (refine gi_block ?_) | (refine gi_inBlock ?_) | (refine gi_exit rfl ?_) | (refine gi_cnd ?_; first | refine gi_true rfl ?_ | refine gi_false rfl ?_) | (refine gi_label ?_)))
          exact fin () _ _ _ trivial ⟨by unfold fst; rw [if_pos h3]; rfl, by unfold fst; rw [if_pos h3]; rfl, rfl, rfl, rfl, rfl, rfl, rfl, rfl, trivial⟩ ⟨rfl, rfl, trivial⟩ trivial
        · (repeat (first | (refine r_end ?_) | (refine r_op ?_; first | refine r_pure hT rfl rfl rfl rfl rfl rfl ?_ | refine r_load hT rfl rfl rfl rfl rfl rfl rfl rfl rfl ?_ | refine r_box rfl rfl rfl rfl rfl rfl rfl rfl rfl ?_ | refine r_store hT rfl rfl rfl rfl rfl rfl rfl rfl rfl rfl ?_ | refine r_off rfl rfl rfl rfl rfl ?_ | refine r_alloc hT rfl rfl rfl rfl rfl rfl rfl rfl rfl ?_ | refine r_lit hT rfl rfl rfl rfl rfl rfl rfl rfl rfl rfl rfl rfl rfl ?_ | refine r_off0 rfl rfl rfl rfl ?_) | (refine gi_seq ?_) | (refine gi_plain_ne 15 rfl ?_) | (refine gi_skip ?_) | (refine gi_block ?_) | (refine gi_inBlock ?_) | (refine gi_exit rfl ?_) | (refine gi_cnd ?_; first | refine gi_true rfl ?_ | refine gi_false rfl ?_) | (refine gi_label ?_)))
          exact fin () _ _ _ trivial ⟨by unfold fst; rw [if_neg h3, if_pos (by omega)]; rfl, by unfold fst; rw [if_neg h3, if_pos (by omega)]; rfl, rfl, rfl, rfl, rfl, rfl, rfl, rfl, trivial⟩ ⟨rfl, rfl, trivial⟩ trivial
    case after =>
      intro _ _
      (repeat (first | (refine r_end ?_) | (refine r_op ?_; first | refine r_pure hT rfl rfl rfl rfl rfl rfl ?_ | refine r_load hT rfl rfl rfl rfl rfl rfl rfl rfl rfl ?_ | refine r_box rfl rfl rfl rfl rfl rfl rfl rfl rfl ?_ | refine r_store hT rfl rfl rfl rfl rfl rfl rfl rfl rfl rfl ?_ | refine r_off rfl rfl rfl rfl rfl ?_ | refine r_alloc hT rfl rfl rfl rfl rfl rfl rfl rfl rfl ?_ | refine r_lit hT rfl rfl rfl rfl rfl rfl rfl rfl rfl rfl rfl rfl rfl ?_ | refine r_off0 rfl rfl rfl rfl ?_) | (refine gi_seq ?_) | (refine gi_plain ?_) | (refine gi_skip ?_) | (refine gi_block ?_) | (refine gi_inBlock ?_) | (refine gi_exit rfl ?_) | (refine gi_cnd ?_; first | refine gi_true rfl ?_ | refine gi_false rfl ?_) | (refine gi_label ?_)))
      refine r_known (d := 52) (b := false) rfl (by rw [notB_eq, eqB_same]; rfl) ?_
      (repeat (first | (refine r_end ?_) | (refine r_op ?_; first | refine r_pure hT rfl rfl rfl rfl rfl rfl ?_ | refine r_load hT rfl rfl rfl rfl rfl rfl rfl rfl rfl ?_ | refine r_box rfl rfl rfl rfl rfl rfl rfl rfl rfl ?_ | refine r_store hT rfl rfl rfl rfl rfl rfl rfl rfl rfl rfl ?_ | refine r_off rfl rfl rfl rfl rfl ?_ | refine r_alloc hT rfl rfl rfl rfl rfl rfl rfl rfl rfl ?_ | refine r_lit hT rfl rfl rfl rfl rfl rfl rfl rfl rfl rfl rfl rfl rfl ?_ | refine r_off0 rfl rfl rfl rfl ?_) | (refine gi_seq ?_) | (refine gi_plain ?_) | (refine gi_skip ?_) | (refine gi_block ?_) | (refine gi_inBlock ?_) | (refine gi_exit rfl ?_) | (refine gi_cnd ?_; first | refine gi_true rfl ?_ | refine gi_false rfl ?_) | (refine gi_label ?_)))
      refine r_known (d := 58) (b := false) rfl (by rw [notB_eq, eqB_same]; rfl) ?_
      (repeat (first | (refine r_end ?_) | (refine r_op ?_; first | refine r_pure hT rfl rfl rfl rfl rfl rfl ?_ | refine r_load hT rfl rfl rfl rfl rfl rfl rfl rfl rfl ?_ | refine r_box rfl rfl rfl rfl rfl rfl rfl rfl rfl ?_ | refine r_store hT rfl rfl rfl rfl rfl rfl rfl rfl rfl rfl ?_ | refine r_off rfl rfl rfl rfl rfl ?_ | refine r_alloc hT rfl rfl rfl rfl rfl rfl rfl rfl rfl ?_ | refine r_lit hT rfl rfl rfl rfl rfl rfl rfl rfl rfl rfl rfl rfl rfl ?_ | refine r_off0 rfl rfl rfl rfl ?_) | (refine gi_seq ?_) | (refine gi_plain ?_) | (refine gi_skip ?_) | (refine gi_block ?_) | (refine gi_inBlock ?_) | (refine gi_exit rfl ?_) | (refine gi_cnd ?_; first | refine gi_true rfl ?_ | refine gi_false rfl ?_) | (refine gi_label ?_)))
      refine r_known (d := 63) (b := false) rfl (by rw [notB_eq, fst_bdr, eqB_same]; rfl) ?_
      (repeat (first | (refine r_end ?_) | (refine r_op ?_; first | refine r_pure hT rfl rfl rfl rfl rfl rfl ?_ | refine r_load hT rfl rfl rfl rfl rfl rfl rfl rfl rfl ?_ | refine r_box rfl rfl rfl rfl rfl rfl rfl rfl rfl ?_ | refine r_store hT rfl rfl rfl rfl rfl rfl rfl rfl rfl rfl ?_ | refine r_off rfl rfl rfl rfl rfl ?_ | refine r_alloc hT rfl rfl rfl rfl rfl rfl rfl rfl rfl ?_ | refine r_lit hT rfl rfl rfl rfl rfl rfl rfl rfl rfl rfl rfl rfl rfl ?_ | refine r_off0 rfl rfl rfl rfl ?_) | (refine gi_seq ?_) | (refine gi_plain ?_) | (refine gi_skip ?_) | (refine gi_block ?_) | (refine gi_inBlock ?_) | (refine gi_exit rfl ?_) | (refine gi_cnd ?_; first | refine gi_true rfl ?_ | refine gi_false rfl ?_) | (refine gi_label ?_)))
      refine r_known (d := 68) (b := false) rfl (by rw [notB_eq]; show (!eqB 1 1) = false; rw [eqB_same]; rfl) ?_
      (repeat (first | (refine r_end ?_) | (refine r_op ?_; first | refine r_pure hT rfl rfl rfl rfl rfl rfl ?_ | refine r_load hT rfl rfl rfl rfl rfl rfl rfl rfl rfl ?_ | refine r_box rfl rfl rfl rfl rfl rfl rfl rfl rfl ?_ | refine r_store hT rfl rfl rfl rfl rfl rfl rfl rfl rfl rfl ?_ | refine r_off rfl rfl rfl rfl rfl ?_ | refine r_alloc hT rfl rfl rfl rfl rfl rfl rfl rfl rfl ?_ | refine r_lit hT rfl rfl rfl rfl rfl rfl rfl rfl rfl rfl rfl rfl rfl ?_ | refine r_off0 rfl rfl rfl rfl ?_) | (refine gi_seq ?_) | (refine gi_plain ?_) | (refine gi_skip ?_) | (refine gi_block ?_) | (refine gi_inBlock ?_) | (refine gi_exit rfl ?_) | (refine gi_cnd ?_; first | refine gi_true rfl ?_ | refine gi_false rfl ?_) | (refine gi_label ?_)))
      refine gi_known (d := 72) (b := false) rfl (by rw [notB_eq]; show (!eqB 0 0) = false; rw [eqB_same]; rfl) ?_
      (repeat (first | (refine r_end ?_) | (refine r_op ?_; first | refine r_pure hT rfl rfl rfl rfl rfl rfl ?_ | refine r_load hT rfl rfl rfl rfl rfl rfl rfl rfl rfl ?_ | refine r_box rfl rfl rfl rfl rfl rfl rfl rfl rfl ?_ | refine r_store hT rfl rfl rfl rfl rfl rfl rfl rfl rfl rfl ?_ | refine r_off rfl rfl rfl rfl rfl ?_ | refine r_alloc hT rfl rfl rfl rfl rfl rfl rfl rfl rfl ?_ | refine r_lit hT rfl rfl rfl rfl rfl rfl rfl rfl rfl rfl rfl rfl rfl ?_ | refine r_off0 rfl rfl rfl rfl ?_) | (refine gi_seq ?_) | (refine gi_plain ?_) | (refine gi_skip ?_) | (refine gi_block ?_) | (refine gi_inBlock ?_) | (refine gi_exit rfl ?_) | (refine gi_cnd ?_; first | refine gi_true rfl ?_ | refine gi_false rfl ?_) | (refine gi_label ?_)))
      refine next (s + 1) _ _ _ hsN (by omega) ⟨?_, rfl, rfl, rfl, rfl, rfl, rfl, trivial⟩ ⟨rfl, rfl, trivial⟩ trivial
      show some (I (wr .i64 ((s : Int) + 1 + 1))) = _
      rw [wr_i64 (by omega) (by omega)]
      simp
  · (repeat (first | (refine r_end ?_) | (refine r_op ?_; first | refine r_pure hT rfl rfl rfl rfl rfl rfl ?_ | refine r_load hT rfl rfl rfl rfl rfl rfl rfl rfl rfl ?_ | refine r_box rfl rfl rfl rfl rfl rfl rfl rfl rfl ?_ | refine r_store hT rfl rfl rfl rfl rfl rfl rfl rfl rfl rfl ?_ | refine r_off rfl rfl rfl rfl rfl ?_ | refine r_alloc hT rfl rfl rfl rfl rfl rfl rfl rfl rfl ?_ | refine r_lit hT rfl rfl rfl rfl rfl rfl rfl rfl rfl rfl rfl rfl rfl ?_ | refine r_off0 rfl rfl rfl rfl ?_) | (refine gi_seq ?_) | (refine gi_plain ?_) | (refine gi_skip ?_) | (refine gi_block ?_) | (refine gi_inBlock ?_) | (refine gi_exit rfl ?_) | (refine gi_cnd ?_; first | refine gi_true rfl ?_ | refine gi_false rfl ?_) | (refine gi_label ?_)))
    refine r_call (awake12_ok) rfl rfl rfl rfl rfl rfl rfl rfl Try.func36 rfl rfl rfl pB ?_
    rintro r S1 ⟨rfl, rfl⟩
    (repeat (first | (refine r_end ?_) | (refine r_op ?_; first | refine r_pure hT rfl rfl rfl rfl rfl rfl ?_ | refine r_load hT rfl rfl rfl rfl rfl rfl rfl rfl rfl ?_ | refine r_box rfl rfl rfl rfl rfl rfl rfl rfl rfl ?_ | refine r_store hT rfl rfl rfl rfl rfl rfl rfl rfl rfl rfl ?_ | refine r_off rfl rfl rfl rfl rfl ?_ | refine r_alloc hT rfl rfl rfl rfl rfl rfl rfl rfl rfl ?_ | refine r_lit hT rfl rfl rfl rfl rfl rfl rfl rfl rfl rfl rfl rfl rfl ?_ | refine r_off0 rfl rfl rfl rfl ?_) | (refine gi_seq ?_) | (refine gi_plain ?_) | (refine gi_skip ?_) | (refine gi_block ?_) | (refine gi_inBlock ?_) | (refine gi_exit rfl ?_) | (refine gi_cnd ?_; first | refine gi_true rfl ?_ | refine gi_false rfl ?_) | (refine gi_label ?_)))
    refine gi_retW hT Try.func12 rfl rfl [] rfl rfl rfl rfl ?_
    exact ⟨rfl, rfl⟩
end U
end Go.Proofs.Ytnenbopcoghmaaa.Kt
