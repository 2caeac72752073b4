/- Part of the proofs of this seat's statements: what the functions compute. No condition. -/
import Derived.Test.YtmocggibcniggaaC23J0
import Derived.Test.YtmocggibcniggaaK4
set_option linter.unusedSimpArgs false
set_option linter.unusedVariables false
namespace Go.Proofs.Ytmocggibcniggaa.Kt
open Go Kw Go.Proofs
attribute [local irreducible] Kw.GI Kw.GR Kw.FnR Kw.FnX
set_option maxHeartbeats 8000000
set_option maxRecDepth 100000
/-- A list that is built, as the map reads it. -/
theorem viewO {w0 : World} {X : Org} {H : Hp} {S : Sp} {gs : List Ls} (hS : S[0]? = some (eO gs)) : ∀ E w us, Sat w0 X E H S w → CL E w [.sl 0] us → CL { E.give w [] [] with Y := (E.give w [] []).Z } w [fsL gs] us := fun E w us hs hc => by
  unfold CL at hc ⊢
  obtain ⟨u, r, h1, h2, h3⟩ := hc
  have := view_own hs hS h2
  rw [frz_seO] at this
  exact ⟨u, r, h1, this, by unfold CL at h3 ⊢; exact h3⟩
theorem Graphn (n : Int) (hn : 0 ≤ n ∧ n ≤ 255) (ps qs : List Int) (hps : ∀ p ∈ ps, 0 ≤ p ∧ p ≤ 255) (hqs : ∀ p ∈ qs, 0 ≤ p ∧ p ≤ 255) : FnX Try.prog 28 [u8 n, rs8 ps, rs8 qs, nilA] [] [] (RG n) :=
  fnX_args (Graph_ok n hn ps qs hps hqs []) (fun _ _ _ h => CL_setx (x := nilA) (y := rsB []) (j := 3) (fun u hu => C_nil_rs hu) rfl h)
theorem Reachn (t : List Nd) (m : Mp) (hl : t.length < 1000000) (hw : m.wl.length < 1000000) : FnX Try.prog 23 [fsNd t, avMf m, nilA] [] [] (RReach t m []) :=
  fnX_args (pReach_ok t m [] hl hw (by decide)) (fun _ _ _ h => CL_setx (x := nilA) (y := rsV []) (j := 2) (fun u hu => C_nil_rs hu) rfl h)
theorem Ints_ok (l : List Int) (hl : l.length < 1000000) : FnR Try.prog 22 [rsN l, rsN l] (RB true) := by
  refine fnR_intro (T := TT) (n := 26) Try.func22 rfl rfl rfl (fun w Z => ?_)
  (repeat (first | refine r_end ?_ | (refine r_op ?_; refine r_pure hT rfl rfl rfl rfl rfl rfl ?_) | refine gi_seq ?_ | refine gi_plain ?_))
  refine gi_known (d := 10) (b := false) rfl (by rw [notB_eq, eqB_eq]; simp) ?_
  (repeat (first | refine r_end ?_ | (refine r_op ?_; refine r_pure hT rfl rfl rfl rfl rfl rfl ?_) | refine gi_seq ?_ | refine gi_plain ?_ | refine gi_skip ?_ | refine gi_block ?_ | (refine gi_cnd ?_; first | refine gi_true rfl ?_ | refine gi_false rfl ?_)))
  refine gi_loop (σ := Nat) (fun j => [(5, I j), (1, rsN l), (0, rsN l)]) (fun _ => []) (fun _ => []) (fun j => j ≤ l.length) (fun j => l.length - j) 0 (Nat.zero_le _) ⟨rfl, rfl, rfl, trivial⟩ trivial trivial (fun _ => rfl) (fun j hj next => ?_)
  have hj : j ≤ l.length := hj
  (repeat (first | refine r_end ?_ | (refine r_op ?_; refine r_pure hT rfl rfl rfl rfl rfl rfl ?_) | refine gi_seq ?_ | refine gi_plain ?_))
  refine gi_lt (q := ((l.map nRow).length : Int)) rfl (fun h3 => ?_) (fun h3 => ?_)
  · rw [List.length_map] at h3
    have hjl : j < l.length := by omega
    obtain ⟨x, hx⟩ : ∃ x, l[j]? = some x := ⟨_, List.getElem?_eq_getElem hjl⟩
    (repeat (first | refine gi_seq ?_ | refine gi_skip ?_ | refine gi_block ?_))
    refine gi_drawM [] [(0, .p), (1, .p), (2, .p), (4, .p), (5, .p), (6, .p), (3, .t), (7, .t), (8, .p)] [0, 0, 3, 4, 0, 0, 48, 64, 136] [0, 0, 3, 4, 0, 0, 48, 64, 136] hm rfl (by kernel_rfl) (fun w1 K => ?_)
    (repeat ((refine r_op ?_; refine r_pure hT rfl rfl rfl rfl rfl rfl ?_)))
    refine r_idx (row := nRow x) hT rfl rfl rfl rfl rfl rfl rfl rfl rfl rfl rfl rfl (by omega) (by simp [hx]) ?_
    (repeat ((refine r_op ?_; refine r_pure hT rfl rfl rfl rfl rfl rfl ?_)))
    refine r_idx (row := nRow x) hT rfl rfl rfl rfl rfl rfl rfl rfl rfl rfl rfl rfl (by omega) (by simp [hx]) ?_
    (repeat (first | refine r_end ?_ | (refine r_op ?_; first | refine r_pure hT rfl rfl rfl rfl rfl rfl ?_ | refine r_load hT rfl rfl rfl rfl rfl rfl rfl rfl rfl ?_)))
    refine gi_known (d := 25) (b := false) rfl (by rw [notB_eq, eqB_eq]; simp) ?_
    (repeat (first | refine r_end ?_ | (refine r_op ?_; refine r_pure hT rfl rfl rfl rfl rfl rfl ?_) | refine gi_plain ?_ | refine gi_skip ?_ | refine gi_inBlock ?_ | (refine gi_cnd ?_; first | refine gi_true rfl ?_ | refine gi_false rfl ?_)))
    refine next (j + 1) _ _ _ hjl (by omega) ⟨?_, rfl, rfl, trivial⟩ trivial trivial
    show some (I (wr .i64 ((j : Int) + 1))) = _
    rw [wr_i64 (by omega) (by omega)]
    simp
  · (repeat (first | refine r_end ?_ | (refine r_op ?_; refine r_pure hT rfl rfl rfl rfl rfl rfl ?_) | refine gi_seq ?_ | refine gi_plain ?_ | refine gi_exit rfl ?_))
    refine gi_retW hT Try.func22 rfl rfl [] rfl rfl rfl rfl ?_
    exact ⟨rfl, rfl⟩
theorem pNn {l : List Int} : ∀ r H1 S1, RV1 (eN l) r H1 S1 → stA r = true ∧ StH H1 ∧ StS S1 := by
  rintro r H S ⟨rfl, rfl, rfl⟩
  refine ⟨rfl, StH.nil, fun e he s hs => ?_⟩
  rw [List.mem_singleton] at he
  subst he
  cases hs
  exact stLL_N l
end Go.Proofs.Ytmocggibcniggaa.Kt
