/- Part of the proofs of this seat's statements: what the functions compute. No condition. -/
import Derived.Test.YtpkkaadflbppcaaC25K
set_option linter.unusedSimpArgs false
set_option linter.unusedVariables false
namespace Go.Proofs.Ytpkkaadflbppcaa.Kt
open Go Kw Go.Proofs Go.Shelf
attribute [local irreducible] Kw.GI Kw.GR Kw.FnR Kw.FnX
set_option maxHeartbeats 4000000
set_option maxRecDepth 100000
abbrev rsI (xs : List Int) : AV := .r (.rs 1 (xs.map fun x => [.v (.int .i64 x)]))
theorem orL_drop {xs : List Int} {j : Nat} {x : Int} (h : xs[j]? = some x) : orL (xs.drop j) = if x = 0 then orL (xs.drop (j + 1)) else x := by
  rw [List.drop_eq_getElem_cons (List.getElem?_eq_some_iff.1 h).1, (List.getElem?_eq_some_iff.1 h).2]
  rfl
theorem Or_ok (xs : List Int) (hl : xs.length < 1000000) : FnR Try.prog 31 [rsI xs] (RI (orL xs)) := by
  refine fnR_intro (T := TT) (n := 18) Try.func31 rfl rfl rfl (fun w Z => ?_)
  (repeat (first | (refine r_end ?_) | (refine r_op ?_; first | refine r_pure hT rfl rfl rfl rfl rfl rfl ?_ | refine r_load hT rfl rfl rfl rfl rfl rfl rfl rfl rfl ?_ | refine r_box rfl rfl rfl rfl rfl rfl rfl rfl rfl ?_ | refine r_store hT rfl rfl rfl rfl rfl rfl rfl rfl rfl rfl ?_ | refine r_off rfl rfl rfl rfl rfl ?_ | refine r_alloc hT rfl rfl rfl rfl rfl rfl rfl rfl rfl ?_ | refine r_lit hT rfl rfl rfl rfl rfl rfl rfl rfl rfl rfl rfl rfl rfl ?_ | refine r_off0 rfl rfl rfl rfl ?_ | refine r_storeO hT rfl rfl rfl rfl rfl rfl rfl rfl rfl rfl rfl ?_) | (refine gi_seq ?_) | (refine gi_plain ?_) | (refine gi_skip ?_) | (refine gi_block ?_) | (refine gi_inBlock ?_) | (refine gi_exit rfl ?_) | (refine gi_cnd ?_; first | refine gi_true rfl ?_ | refine gi_false rfl ?_) | (refine gi_label ?_)))
  refine gi_loop (σ := Nat) (fun j => [(8, I j), (7, I xs.length), (6, rsI xs), (3, I 0), (2, I 0)]) (fun _ => []) (fun _ => []) (fun j => j ≤ xs.length ∧ orL (xs.drop j) = orL xs) (fun j => xs.length - j) 0 ⟨Nat.zero_le _, rfl⟩ ⟨rfl, ?_, rfl, rfl, rfl, trivial⟩ trivial trivial (fun _ => rfl) (fun j hj next => ?_)
  · show some (I ((xs.map _).length : Nat)) = _
    rw [List.length_map]
  obtain ⟨h1, h2⟩ := hj
  (repeat (first | (refine r_end ?_) | (refine r_op ?_; first | refine r_pure hT rfl rfl rfl rfl rfl rfl ?_ | refine r_load hT rfl rfl rfl rfl rfl rfl rfl rfl rfl ?_ | refine r_box rfl rfl rfl rfl rfl rfl rfl rfl rfl ?_ | refine r_store hT rfl rfl rfl rfl rfl rfl rfl rfl rfl rfl ?_ | refine r_off rfl rfl rfl rfl rfl ?_ | refine r_alloc hT rfl rfl rfl rfl rfl rfl rfl rfl rfl ?_ | refine r_lit hT rfl rfl rfl rfl rfl rfl rfl rfl rfl rfl rfl rfl rfl ?_ | refine r_off0 rfl rfl rfl rfl ?_ | refine r_storeO hT rfl rfl rfl rfl rfl rfl rfl rfl rfl rfl rfl ?_) | (refine gi_seq ?_) | (refine gi_plain ?_) | (refine gi_skip ?_) | (refine gi_block ?_) | (refine gi_inBlock ?_) | (refine gi_exit rfl ?_) | (refine gi_cnd ?_; first | refine gi_true rfl ?_ | refine gi_false rfl ?_) | (refine gi_label ?_)))
  refine gi_lt rfl (fun h3 => ?_) (fun h3 => ?_)
  · have h3' : j < xs.length := by omega
    obtain ⟨x, hx⟩ : ∃ x, xs[j]? = some x := ⟨_, List.getElem?_eq_getElem h3'⟩
    (repeat (first | (refine r_end ?_) | (refine r_op ?_; first | refine r_pure hT rfl rfl rfl rfl rfl rfl ?_ | refine r_load hT rfl rfl rfl rfl rfl rfl rfl rfl rfl ?_ | refine r_box rfl rfl rfl rfl rfl rfl rfl rfl rfl ?_ | refine r_store hT rfl rfl rfl rfl rfl rfl rfl rfl rfl rfl ?_ | refine r_off rfl rfl rfl rfl rfl ?_ | refine r_alloc hT rfl rfl rfl rfl rfl rfl rfl rfl rfl ?_ | refine r_lit hT rfl rfl rfl rfl rfl rfl rfl rfl rfl rfl rfl rfl rfl ?_ | refine r_off0 rfl rfl rfl rfl ?_ | refine r_storeO hT rfl rfl rfl rfl rfl rfl rfl rfl rfl rfl rfl ?_) | (refine gi_seq ?_) | (refine gi_plain ?_) | (refine gi_skip ?_) | (refine gi_block ?_) | (refine gi_inBlock ?_) | (refine gi_exit rfl ?_) | (refine gi_cnd ?_; first | refine gi_true rfl ?_ | refine gi_false rfl ?_) | (refine gi_label ?_)))
    refine r_idx (row := [.v (.int .i64 x)]) hT rfl rfl rfl rfl rfl rfl rfl rfl rfl rfl rfl rfl (by omega) (by simp [hx]) ?_
    (repeat (first | (refine r_end ?_) | (refine r_op ?_; first | refine r_pure hT rfl rfl rfl rfl rfl rfl ?_ | refine r_load hT rfl rfl rfl rfl rfl rfl rfl rfl rfl ?_ | refine r_box rfl rfl rfl rfl rfl rfl rfl rfl rfl ?_ | refine r_store hT rfl rfl rfl rfl rfl rfl rfl rfl rfl rfl ?_ | refine r_off rfl rfl rfl rfl rfl ?_ | refine r_alloc hT rfl rfl rfl rfl rfl rfl rfl rfl rfl ?_ | refine r_lit hT rfl rfl rfl rfl rfl rfl rfl rfl rfl rfl rfl rfl rfl ?_ | refine r_off0 rfl rfl rfl rfl ?_ | refine r_storeO hT rfl rfl rfl rfl rfl rfl rfl rfl rfl rfl rfl ?_) | (refine gi_seq ?_) | (refine gi_plain ?_) | (refine gi_skip ?_) | (refine gi_block ?_) | (refine gi_inBlock ?_) | (refine gi_exit rfl ?_) | (refine gi_cnd ?_; first | refine gi_true rfl ?_ | refine gi_false rfl ?_) | (refine gi_label ?_)))
    refine gi_ne rfl (fun h4 => ?_) (fun h4 => ?_)
    · (repeat (first | (refine r_end ?_) | (refine r_op ?_; first | refine r_pure hT rfl rfl rfl rfl rfl rfl ?_ | refine r_load hT rfl rfl rfl rfl rfl rfl rfl rfl rfl ?_ | refine r_box rfl rfl rfl rfl rfl rfl rfl rfl rfl ?_ | refine r_store hT rfl rfl rfl rfl rfl rfl rfl rfl rfl rfl ?_ | refine r_off rfl rfl rfl rfl rfl ?_ | refine r_alloc hT rfl rfl rfl rfl rfl rfl rfl rfl rfl ?_ | refine r_lit hT rfl rfl rfl rfl rfl rfl rfl rfl rfl rfl rfl rfl rfl ?_ | refine r_off0 rfl rfl rfl rfl ?_ | refine r_storeO hT rfl rfl rfl rfl rfl rfl rfl rfl rfl rfl rfl ?_) | (refine gi_seq ?_) | (refine gi_plain ?_) | (refine gi_skip ?_) | (refine gi_block ?_) | (refine gi_inBlock ?_) | (refine gi_exit rfl ?_) | (refine gi_cnd ?_; first | refine gi_true rfl ?_ | refine gi_false rfl ?_) | (refine gi_label ?_)))
      refine gi_retW hT Try.func31 rfl rfl [] rfl rfl rfl rfl ?_
      rw [orL_drop hx, if_neg h4] at h2
      exact ⟨by rw [h2], rfl⟩
    · (repeat (first | (refine r_end ?_) | (refine r_op ?_; first | refine r_pure hT rfl rfl rfl rfl rfl rfl ?_ | refine r_load hT rfl rfl rfl rfl rfl rfl rfl rfl rfl ?_ | refine r_box rfl rfl rfl rfl rfl rfl rfl rfl rfl ?_ | refine r_store hT rfl rfl rfl rfl rfl rfl rfl rfl rfl rfl ?_ | refine r_off rfl rfl rfl rfl rfl ?_ | refine r_alloc hT rfl rfl rfl rfl rfl rfl rfl rfl rfl ?_ | refine r_lit hT rfl rfl rfl rfl rfl rfl rfl rfl rfl rfl rfl rfl rfl ?_ | refine r_off0 rfl rfl rfl rfl ?_ | refine r_storeO hT rfl rfl rfl rfl rfl rfl rfl rfl rfl rfl rfl ?_) | (refine gi_seq ?_) | (refine gi_plain ?_) | (refine gi_skip ?_) | (refine gi_block ?_) | (refine gi_inBlock ?_) | (refine gi_exit rfl ?_) | (refine gi_cnd ?_; first | refine gi_true rfl ?_ | refine gi_false rfl ?_) | (refine gi_label ?_)))
      refine next (j + 1) _ _ _ ⟨h3', ?_⟩ (by omega) ⟨?_, rfl, rfl, rfl, rfl, trivial⟩ trivial trivial
      · rw [orL_drop hx, if_pos h4] at h2
        exact h2
      · show some (I (wr .i64 ((j : Int) + 1))) = _
        rw [wr_i64 (by omega) (by omega)]
        simp
  · (repeat (first | (refine r_end ?_) | (refine r_op ?_; first | refine r_pure hT rfl rfl rfl rfl rfl rfl ?_ | refine r_load hT rfl rfl rfl rfl rfl rfl rfl rfl rfl ?_ | refine r_box rfl rfl rfl rfl rfl rfl rfl rfl rfl ?_ | refine r_store hT rfl rfl rfl rfl rfl rfl rfl rfl rfl rfl ?_ | refine r_off rfl rfl rfl rfl rfl ?_ | refine r_alloc hT rfl rfl rfl rfl rfl rfl rfl rfl rfl ?_ | refine r_lit hT rfl rfl rfl rfl rfl rfl rfl rfl rfl rfl rfl rfl rfl ?_ | refine r_off0 rfl rfl rfl rfl ?_ | refine r_storeO hT rfl rfl rfl rfl rfl rfl rfl rfl rfl rfl rfl ?_) | (refine gi_seq ?_) | (refine gi_plain ?_) | (refine gi_skip ?_) | (refine gi_block ?_) | (refine gi_inBlock ?_) | (refine gi_exit rfl ?_) | (refine gi_cnd ?_; first | refine gi_true rfl ?_ | refine gi_false rfl ?_) | (refine gi_label ?_)))
    refine gi_retW hT Try.func31 rfl rfl [] rfl rfl rfl rfl ?_
    have : j = xs.length := by omega
    subst this
    simp [orL] at h2
    exact ⟨by rw [← h2], rfl⟩
/-! ### the closure -/
structure Rw where
  p : Int
  b : Int
  g : Int
  u : Int
  v : {v : Value // v.oneCell' = true}
instance : Inhabited Rw := ⟨⟨0, 0, 0, 0, ⟨.bool true, rfl⟩⟩⟩
def Rw.enc (x : Rw) : List Value := [.int .i64 x.p, .int .i64 x.b, .int .i64 x.g, .int .i64 x.u, x.v.1]
def kcf (g p b g' p' b' : Int) : Int := orL [cmp3 g g', cmp3 p p', cmp3 b b']
def Rw.cf (x y : Rw) : Int := kcf x.g x.p x.b y.g y.p y.b
abbrev Rw.av (x : Rw) : AV := .agg [I x.p, I x.b, I x.g, I x.u, .r .any]
def klt (g p b g' p' b' : Int) : Prop := g < g' ∨ (g = g' ∧ (p < p' ∨ (p = p' ∧ b < b')))
theorem kcf_lt (g p b g' p' b' : Int) : kcf g p b g' p' b' < 0 ↔ klt g p b g' p' b' := by
  unfold kcf klt cmp3
  simp only [orL]
  repeat' split
  all_goals omega
theorem swo : Go.Sort.SWO (Go.Proofs.ltOf Rw.cf) where
  irrefl x := by unfold Go.Proofs.ltOf Rw.cf; exact decide_eq_false (by rw [kcf_lt]; unfold klt; omega)
  trans x y z h1 h2 := by
    unfold Go.Proofs.ltOf Rw.cf at *
    have h1 := of_decide_eq_true h1
    have h2 := of_decide_eq_true h2
    refine decide_eq_true ?_
    rw [kcf_lt] at *
    unfold klt at *
    omega
  ntrans x y z h1 h2 := by
    unfold Go.Proofs.ltOf Rw.cf at *
    have h1 := of_decide_eq_false h1
    have h2 := of_decide_eq_false h2
    refine decide_eq_false ?_
    rw [kcf_lt] at *
    unfold klt at *
    omega
theorem Rw.hA (E : Env) (w : World) (x : Rw) : C E w x.av (.agg x.enc.toArray) := by
  unfold C
  refine ⟨_, rfl, CL_cons' (C_v_mk rfl) (CL_cons' (C_v_mk rfl) (CL_cons' (C_v_mk rfl) (CL_cons' (C_v_mk rfl) (CL_cons' ?_ CL_nil')))), fun v hv => ?_⟩
  · unfold C CR; exact x.v.2
  · unfold Rw.enc at hv
    simp only [List.mem_cons, List.not_mem_nil, or_false] at hv
    rcases hv with rfl | rfl | rfl | rfl | rfl <;> first | rfl | exact x.v.2
theorem All1_ok (x y : Rw) : FnR Try.prog 30 [x.av, y.av] (fun r S => r = I (x.cf y) ∧ S = []) := by
  refine fnR_intro (T := TT) (n := 22) Try.func30 rfl rfl rfl (fun w Z => ?_)
  (repeat (first | (refine r_end ?_) | (refine r_op ?_; first | refine r_pure hT rfl rfl rfl rfl rfl rfl ?_ | refine r_load hT rfl rfl rfl rfl rfl rfl rfl rfl rfl ?_ | refine r_box rfl rfl rfl rfl rfl rfl rfl rfl rfl ?_ | refine r_store hT rfl rfl rfl rfl rfl rfl rfl rfl rfl rfl ?_ | refine r_off rfl rfl rfl rfl rfl ?_ | refine r_alloc hT rfl rfl rfl rfl rfl rfl rfl rfl rfl ?_ | refine r_lit hT rfl rfl rfl rfl rfl rfl rfl rfl rfl rfl rfl rfl rfl ?_ | refine r_off0 rfl rfl rfl rfl ?_ | refine r_storeO hT rfl rfl rfl rfl rfl rfl rfl rfl rfl rfl rfl ?_) | (refine gi_seq ?_) | (refine gi_plain_ne 1 rfl ?_) | (refine gi_skip ?_) | (refine gi_block ?_) | (refine gi_inBlock ?_) | (refine gi_exit rfl ?_) | (refine gi_cnd ?_; first | refine gi_true rfl ?_ | refine gi_false rfl ?_) | (refine gi_label ?_)))
  refine gi_drawM [] [(0, .p), (2, .p), (5, .p), (7, .p), (10, .p), (12, .p), (1, .t), (3, .t), (6, .t), (8, .t), (11, .t), (13, .t), (4, .o), (9, .o), (14, .o), (15, .o), (16, .o), (17, .p)] [0, 1, 0, 4, 10, 0, 32, 0, 128, 336, 0, 1024, 0, 4096, 10752, 16912, 49152, 131071] [0, 1, 0, 4, 10, 0, 32, 0, 128, 320, 0, 1024, 0, 4096, 10240, 16912, 32768, 65536] hm rfl (by kernel_rfl) (fun w1 K => ?_)
  (repeat (first | (refine r_end ?_) | (refine r_op ?_; first | refine r_pure hT rfl rfl rfl rfl rfl rfl ?_ | refine r_load hT rfl rfl rfl rfl rfl rfl rfl rfl rfl ?_ | refine r_box rfl rfl rfl rfl rfl rfl rfl rfl rfl ?_ | refine r_store hT rfl rfl rfl rfl rfl rfl rfl rfl rfl rfl ?_ | refine r_off rfl rfl rfl rfl rfl ?_ | refine r_alloc hT rfl rfl rfl rfl rfl rfl rfl rfl rfl ?_ | refine r_lit hT rfl rfl rfl rfl rfl rfl rfl rfl rfl rfl rfl rfl rfl ?_ | refine r_off0 rfl rfl rfl rfl ?_ | refine r_storeO hT rfl rfl rfl rfl rfl rfl rfl rfl rfl rfl rfl ?_) | (refine gi_seq ?_) | (refine gi_plain ?_) | (refine gi_skip ?_) | (refine gi_block ?_) | (refine gi_inBlock ?_) | (refine gi_exit rfl ?_) | (refine gi_cnd ?_; first | refine gi_true rfl ?_ | refine gi_false rfl ?_) | (refine gi_label ?_)))
  refine r_call (Compare_ok x.g y.g) rfl rfl rfl rfl rfl rfl rfl rfl Try.func32 rfl rfl rfl pI ?_
  rintro r S1 ⟨rfl, rfl⟩
  (repeat (first | (refine r_end ?_) | (refine r_op ?_; first | refine r_pure hT rfl rfl rfl rfl rfl rfl ?_ | refine r_load hT rfl rfl rfl rfl rfl rfl rfl rfl rfl ?_ | refine r_box rfl rfl rfl rfl rfl rfl rfl rfl rfl ?_ | refine r_store hT rfl rfl rfl rfl rfl rfl rfl rfl rfl rfl ?_ | refine r_off rfl rfl rfl rfl rfl ?_ | refine r_alloc hT rfl rfl rfl rfl rfl rfl rfl rfl rfl ?_ | refine r_lit hT rfl rfl rfl rfl rfl rfl rfl rfl rfl rfl rfl rfl rfl ?_ | refine r_off0 rfl rfl rfl rfl ?_ | refine r_storeO hT rfl rfl rfl rfl rfl rfl rfl rfl rfl rfl rfl ?_) | (refine gi_seq ?_) | (refine gi_plain ?_) | (refine gi_skip ?_) | (refine gi_block ?_) | (refine gi_inBlock ?_) | (refine gi_exit rfl ?_) | (refine gi_cnd ?_; first | refine gi_true rfl ?_ | refine gi_false rfl ?_) | (refine gi_label ?_)))
  refine r_call (Compare_ok x.p y.p) rfl rfl rfl rfl rfl rfl rfl rfl Try.func32 rfl rfl rfl pI ?_
  rintro r S1 ⟨rfl, rfl⟩
  (repeat (first | (refine r_end ?_) | (refine r_op ?_; first | refine r_pure hT rfl rfl rfl rfl rfl rfl ?_ | refine r_load hT rfl rfl rfl rfl rfl rfl rfl rfl rfl ?_ | refine r_box rfl rfl rfl rfl rfl rfl rfl rfl rfl ?_ | refine r_store hT rfl rfl rfl rfl rfl rfl rfl rfl rfl rfl ?_ | refine r_off rfl rfl rfl rfl rfl ?_ | refine r_alloc hT rfl rfl rfl rfl rfl rfl rfl rfl rfl ?_ | refine r_lit hT rfl rfl rfl rfl rfl rfl rfl rfl rfl rfl rfl rfl rfl ?_ | refine r_off0 rfl rfl rfl rfl ?_ | refine r_storeO hT rfl rfl rfl rfl rfl rfl rfl rfl rfl rfl rfl ?_) | (refine gi_seq ?_) | (refine gi_plain ?_) | (refine gi_skip ?_) | (refine gi_block ?_) | (refine gi_inBlock ?_) | (refine gi_exit rfl ?_) | (refine gi_cnd ?_; first | refine gi_true rfl ?_ | refine gi_false rfl ?_) | (refine gi_label ?_)))
  refine r_call (Compare_ok x.b y.b) rfl rfl rfl rfl rfl rfl rfl rfl Try.func32 rfl rfl rfl pI ?_
  rintro r S1 ⟨rfl, rfl⟩
  (repeat (first | (refine r_end ?_) | (refine r_op ?_; first | refine r_pure hT rfl rfl rfl rfl rfl rfl ?_ | refine r_load hT rfl rfl rfl rfl rfl rfl rfl rfl rfl ?_ | refine r_box rfl rfl rfl rfl rfl rfl rfl rfl rfl ?_ | refine r_store hT rfl rfl rfl rfl rfl rfl rfl rfl rfl rfl ?_ | refine r_off rfl rfl rfl rfl rfl ?_ | refine r_alloc hT rfl rfl rfl rfl rfl rfl rfl rfl rfl ?_ | refine r_lit hT rfl rfl rfl rfl rfl rfl rfl rfl rfl rfl rfl rfl rfl ?_ | refine r_off0 rfl rfl rfl rfl ?_ | refine r_storeO hT rfl rfl rfl rfl rfl rfl rfl rfl rfl rfl rfl ?_) | (refine gi_seq ?_) | (refine gi_plain ?_) | (refine gi_skip ?_) | (refine gi_block ?_) | (refine gi_inBlock ?_) | (refine gi_exit rfl ?_) | (refine gi_cnd ?_; first | refine gi_true rfl ?_ | refine gi_false rfl ?_) | (refine gi_label ?_)))
  refine r_call (Or_ok [cmp3 x.g y.g, cmp3 x.p y.p, cmp3 x.b y.b] (by show (3 : Nat) < _; decide)) rfl rfl rfl rfl rfl rfl rfl rfl Try.func31 rfl rfl rfl pI ?_
  rintro r S1 ⟨rfl, rfl⟩
  (repeat (first | (refine r_end ?_) | (refine r_op ?_; first | refine r_pure hT rfl rfl rfl rfl rfl rfl ?_ | refine r_load hT rfl rfl rfl rfl rfl rfl rfl rfl rfl ?_ | refine r_box rfl rfl rfl rfl rfl rfl rfl rfl rfl ?_ | refine r_store hT rfl rfl rfl rfl rfl rfl rfl rfl rfl rfl ?_ | refine r_off rfl rfl rfl rfl rfl ?_ | refine r_alloc hT rfl rfl rfl rfl rfl rfl rfl rfl rfl ?_ | refine r_lit hT rfl rfl rfl rfl rfl rfl rfl rfl rfl rfl rfl rfl rfl ?_ | refine r_off0 rfl rfl rfl rfl ?_ | refine r_storeO hT rfl rfl rfl rfl rfl rfl rfl rfl rfl rfl rfl ?_) | (refine gi_seq ?_) | (refine gi_plain ?_) | (refine gi_skip ?_) | (refine gi_block ?_) | (refine gi_inBlock ?_) | (refine gi_exit rfl ?_) | (refine gi_cnd ?_; first | refine gi_true rfl ?_ | refine gi_false rfl ?_) | (refine gi_label ?_)))
  refine gi_retW hT Try.func30 rfl rfl [] rfl rfl rfl rfl ?_
  exact ⟨rfl, rfl⟩
end Go.Proofs.Ytpkkaadflbppcaa.Kt
