/- Part of the proofs of this seat's statements: what the functions compute. No condition. -/
import Derived.Test.YtmocggibcniggaaC18Y
import Derived.Test.YtmocggibcniggaaC23S
set_option linter.unusedSimpArgs false
set_option linter.unusedVariables false
namespace Go.Proofs.Ytmocggibcniggaa.Kt
open Go Kw Go.Proofs
attribute [local irreducible] Kw.GI Kw.GR Kw.FnR Kw.FnX
set_option maxHeartbeats 8000000
set_option maxRecDepth 100000
theorem y_flat_Key : flatK Try.prog 96 = some [some .i64, some .i64, some .i64] := by kernel_rfl
theorem pKy {x : Ls} : ∀ r S1, (r = .agg [I x.kind, I x.id, I x.adv] ∧ S1 = []) → plainA r = true ∧ PlainS S1 := by
  rintro r S ⟨rfl, rfl⟩
  exact ⟨rfl, PlainS.nil⟩
structure FewV (l : List Ls) : Prop where
  few : Few l
  vt : ∀ x ∈ l, x.vt.length ≤ 70
abbrev RFV (l : List Ls) : AV → Sp → Prop := fun r S => (∃ b, r = Bo b ∧ (b = true → FewV l)) ∧ S = []
theorem pRFV {l : List Ls} : ∀ r S1, ((∃ b, r = Bo b ∧ (b = true → FewV l)) ∧ S1 = []) → plainA r = true ∧ PlainS S1 := by
  rintro r S ⟨⟨b, rfl, _⟩, rfl⟩
  exact ⟨rfl, PlainS.nil⟩
/-- A right list is a short one. -/
theorem RightLV_ok (l : List Ls) : FnR Try.prog 13 [fsL l] (RFV l) := by
  refine fnR_intro (T := TT) (n := 45) Try.func13 rfl rfl rfl (fun w Z => ?_)
  (repeat (first | refine r_end ?_ | (refine r_op ?_; refine r_pure hT rfl rfl rfl rfl rfl rfl ?_) | refine gi_seq ?_ | refine gi_plain ?_))
  refine gi_thaw 0 rfl ?_
  refine gi_lt (q := ((l.map Ls.row).length : Int)) rfl (fun h1 => ?_) (fun h1 => ?_)
  · (repeat (first | refine r_end ?_ | (refine r_op ?_; refine r_pure hT rfl rfl rfl rfl rfl rfl ?_) | refine gi_seq ?_ | refine gi_plain ?_))
    refine gi_retW hT Try.func13 rfl rfl [] rfl rfl rfl rfl ?_
    exact ⟨⟨_, rfl, fun h => by cases h⟩, rfl⟩
  rw [List.length_map] at h1
  (repeat (first | refine r_end ?_ | (refine r_op ?_; refine r_pure hT rfl rfl rfl rfl rfl rfl ?_) | refine gi_seq ?_ | refine gi_plain ?_ | refine gi_skip ?_ | refine gi_block ?_))
  refine gi_loop (σ := Nat) (fun j => [(3, I j), (0, .r (.rs 12 (l.map Ls.row)))]) (fun _ => []) (fun _ => []) (fun j => j ≤ l.length ∧ ∀ i, i < j → ∀ x, l[i]? = some x → x.lk.length ≤ 70 ∧ x.rt.length ≤ 70 ∧ x.vt.length ≤ 70) (fun j => l.length - j) 0 ⟨Nat.zero_le _, fun i h => absurd h (Nat.not_lt_zero _)⟩ ⟨rfl, rfl, trivial⟩ trivial trivial (fun _ => rfl) (fun j hj next => ?_)
  obtain ⟨hj, hn⟩ := hj
  (repeat (first | refine r_end ?_ | (refine r_op ?_; refine r_pure hT rfl rfl rfl rfl rfl rfl ?_) | refine gi_seq ?_ | refine gi_plain ?_))
  refine gi_lt (q := ((l.map Ls.row).length : Int)) rfl (fun h3 => ?_) (fun h3 => ?_)
  · rw [List.length_map] at h3
    have hjl : j < l.length := by omega
    obtain ⟨x, hx⟩ : ∃ x, l[j]? = some x := ⟨_, List.getElem?_eq_getElem hjl⟩
    (repeat (first | (refine r_op ?_; refine r_pure hT rfl rfl rfl rfl rfl rfl ?_) | refine gi_seq ?_ | refine gi_plain ?_ | refine gi_skip ?_ | refine gi_block ?_))
    refine r_idx (row := x.row) hT rfl rfl rfl rfl rfl rfl rfl rfl rfl rfl rfl rfl (by omega) (by simp [hx]) ?_
    (repeat ((refine r_op ?_; refine r_load hT rfl rfl rfl rfl rfl rfl rfl rfl rfl ?_)))
    refine r_call (Great_ok x) rfl rfl rfl rfl rfl rfl rfl rfl Try.func41 rfl rfl rfl pGr ?_
    rintro r S1 ⟨⟨b1, rfl, hb1⟩, rfl⟩
    (repeat ((refine r_op ?_; refine r_pure hT rfl rfl rfl rfl rfl rfl ?_)))
    refine r_case (d := 19) rfl (fun c1 => ?_) (fun c1 => ?_)
    · (repeat (first | refine r_end ?_ | (refine r_op ?_; first | refine r_pure hT rfl rfl rfl rfl rfl rfl ?_ | refine r_off rfl rfl rfl rfl rfl ?_) | refine gi_seq ?_ | refine gi_plain ?_ | (refine gi_cnd ?_; first | refine gi_true rfl ?_ | refine gi_false rfl ?_)))
      refine gi_retW hT Try.func13 rfl rfl [] rfl rfl rfl rfl ?_
      exact ⟨⟨_, rfl, fun h => by cases h⟩, rfl⟩
    obtain ⟨l1, l2, l3⟩ := hb1 c1
    (repeat ((refine r_op ?_; refine r_pure hT rfl rfl rfl rfl rfl rfl ?_)))
    refine r_idx (row := x.row) hT rfl rfl rfl rfl rfl rfl rfl rfl rfl rfl rfl rfl (by omega) (by simp [hx]) ?_
    (repeat ((refine r_op ?_; refine r_load hT rfl rfl rfl rfl rfl rfl rfl rfl rfl ?_)))
    refine r_call (RightLsa_ok x (by omega) (by omega) (by omega)) rfl rfl rfl rfl rfl rfl rfl rfl Try.func42 rfl rfl rfl pRE ?_
    rintro r S1 ⟨⟨b2, rfl⟩, rfl⟩
    (repeat (first | refine r_end ?_ | (refine r_op ?_; refine r_pure hT rfl rfl rfl rfl rfl rfl ?_)))
    refine gi_cond rfl (fun c2 => ?_) (fun c2 => ?_)
    · (repeat (first | refine r_end ?_ | (refine r_op ?_; refine r_pure hT rfl rfl rfl rfl rfl rfl ?_) | refine gi_seq ?_ | refine gi_plain ?_))
      refine gi_retW hT Try.func13 rfl rfl [] rfl rfl rfl rfl ?_
      exact ⟨⟨_, rfl, fun h => by cases h⟩, rfl⟩
    (repeat (first | refine r_end ?_ | (refine r_op ?_; refine r_pure hT rfl rfl rfl rfl rfl rfl ?_) | refine gi_seq ?_ | refine gi_plain ?_ | refine gi_skip ?_ | refine gi_block ?_))
    refine gi_loop (σ := Nat) (fun k => [(4, I k), (3, I j), (0, .r (.rs 12 (l.map Ls.row)))]) (fun _ => []) (fun _ => []) (fun k => k ≤ j) (fun k => j - k) 0 (Nat.zero_le _) ⟨rfl, rfl, rfl, trivial⟩ trivial trivial (fun _ => rfl) (fun k hk next2 => ?_)
    have hk : k ≤ j := hk
    (repeat (first | refine r_end ?_ | (refine r_op ?_; refine r_pure hT rfl rfl rfl rfl rfl rfl ?_) | refine gi_seq ?_ | refine gi_plain ?_))
    refine gi_lt rfl (fun h4 => ?_) (fun h4 => ?_)
    · have hkj : k < j := by omega
      obtain ⟨y, hy⟩ : ∃ y, l[k]? = some y := ⟨_, List.getElem?_eq_getElem (by omega)⟩
      (repeat (first | refine gi_seq ?_ | refine gi_skip ?_ | refine gi_block ?_))
      refine gi_drawM [] [(0, .p), (1, .p), (2, .p), (3, .p), (6, .p), (7, .p), (8, .p), (9, .p), (4, .t), (10, .t), (5, .o), (11, .o), (12, .p)] [0, 0, 3, 4, 8, 16, 0, 0, 192, 256, 512, 1056, 2080] [0, 0, 3, 4, 8, 16, 0, 0, 192, 256, 512, 1024, 2080] hm rfl (by kernel_rfl) (fun w1 K => ?_)
      (repeat ((refine r_op ?_; refine r_pure hT rfl rfl rfl rfl rfl rfl ?_)))
      refine r_idx (row := y.row) hT rfl rfl rfl rfl rfl rfl rfl rfl rfl rfl rfl rfl (by omega) (by simp [hy]) ?_
      (repeat ((refine r_op ?_; refine r_pure hT rfl rfl rfl rfl rfl rfl ?_)))
      refine r_idx (row := x.row) hT rfl rfl rfl rfl rfl rfl rfl rfl rfl rfl rfl rfl (by omega) (by simp [hx]) ?_
      (repeat ((refine r_op ?_; first | refine r_pure hT rfl rfl rfl rfl rfl rfl ?_ | refine r_load hT rfl rfl rfl rfl rfl rfl rfl rfl rfl ?_)))
      refine r_call (KeyOf_ok y) rfl rfl rfl rfl rfl rfl rfl rfl Try.func43 rfl rfl rfl pKy ?_
      rintro r S1 ⟨rfl, rfl⟩
      skip
      refine r_call (KeyOf_ok x) rfl rfl rfl rfl rfl rfl rfl rfl Try.func43 rfl rfl rfl pKy ?_
      rintro r S1 ⟨rfl, rfl⟩
      skip
      refine r_eqT _ rfl rfl rfl rfl rfl rfl rfl rfl rfl y_flat_Key ?_
      (repeat (refine r_end ?_))
      refine gi_cond rfl (fun c3 => ?_) (fun c3 => ?_)
      · (repeat (first | refine r_end ?_ | (refine r_op ?_; refine r_pure hT rfl rfl rfl rfl rfl rfl ?_) | refine gi_seq ?_ | refine gi_plain ?_))
        refine gi_retW hT Try.func13 rfl rfl [] rfl rfl rfl rfl ?_
        exact ⟨⟨_, rfl, fun h => by cases h⟩, rfl⟩
      (repeat (first | refine r_end ?_ | (refine r_op ?_; refine r_pure hT rfl rfl rfl rfl rfl rfl ?_) | refine gi_plain ?_ | refine gi_skip ?_ | refine gi_inBlock ?_))
      refine next2 (k + 1) _ _ _ hkj (by omega) ⟨?_, rfl, rfl, trivial⟩ trivial trivial
      show some (I (wr .i64 ((k : Int) + 1))) = _
      rw [wr_i64 (by omega) (by omega)]
      simp
    · (repeat (first | refine r_end ?_ | (refine r_op ?_; refine r_pure hT rfl rfl rfl rfl rfl rfl ?_) | refine gi_plain ?_ | refine gi_inBlock ?_ | refine gi_exit rfl ?_))
      refine next (j + 1) _ _ _ ⟨hjl, fun i hi z hz => ?_⟩ (by omega) ⟨?_, rfl, trivial⟩ trivial trivial
      · rcases Nat.lt_succ_iff_lt_or_eq.1 hi with hi | rfl
        · exact hn i hi z hz
        · rw [hx] at hz; cases hz; exact ⟨l1, l2, l3⟩
      · show some (I (wr .i64 ((j : Int) + 1))) = _
        rw [wr_i64 (by omega) (by omega)]
        simp
  · rw [List.length_map] at h3
    (repeat (first | refine r_end ?_ | (refine r_op ?_; refine r_pure hT rfl rfl rfl rfl rfl rfl ?_) | refine gi_seq ?_ | refine gi_plain ?_ | refine gi_exit rfl ?_))
    refine gi_retW hT Try.func13 rfl rfl [] rfl rfl rfl rfl ?_
    refine ⟨⟨_, rfl, fun _ => ⟨⟨by omega, fun x hx => ?_, fun x hx => ?_⟩, fun x hx => ?_⟩⟩, rfl⟩
    · obtain ⟨i, hi⟩ := List.mem_iff_getElem?.1 hx
      have hl := (List.getElem?_eq_some_iff.1 hi).1
      have := (hn i (by omega) x hi).1
      omega
    · obtain ⟨i, hi⟩ := List.mem_iff_getElem?.1 hx
      have hl := (List.getElem?_eq_some_iff.1 hi).1
      have := (hn i (by omega) x hi).2.1
      omega
    · obtain ⟨i, hi⟩ := List.mem_iff_getElem?.1 hx
      have hl := (List.getElem?_eq_some_iff.1 hi).1
      exact (hn i (by omega) x hi).2.2
theorem RightV (l : List Ls) : FnR Try.prog 13 [rsL l] (RFV l) := FnR.up (by
  show FnR _ _ [upA (rsL l)] _
  rw [up_rsL]; exact RightLV_ok l) pRFV
end Go.Proofs.Ytmocggibcniggaa.Kt
