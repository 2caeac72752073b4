/- Part of the proofs of this seat's statements: what the functions compute. No condition. -/
import Derived.Test.YtmocggibcniggaaC18X
import Derived.Test.YtmocggibcniggaaK4
set_option linter.unusedSimpArgs false
set_option linter.unusedVariables false
namespace Go.Proofs.Ytmocggibcniggaa.Kt
open Go Kw Go.Proofs
attribute [local irreducible] Kw.GI Kw.GR Kw.FnR Kw.FnX
set_option maxHeartbeats 8000000
set_option maxRecDepth 100000
/-! ### what a right list of advertisements is: its length, the lengths of its lists -/
abbrev RE : AV → Sp → Prop := fun r S => (∃ b, r = Bo b) ∧ S = []
theorem pRE : ∀ r S1, ((∃ b, r = Bo b) ∧ S1 = []) → plainA r = true ∧ PlainS S1 := by
  rintro r S ⟨⟨b, rfl⟩, rfl⟩
  exact ⟨rfl, PlainS.nil⟩
theorem RightI_ok (x : Int) : FnR Try.prog 59 [I x] RE := by
  refine fnR_intro (T := TT) (n := 9) Try.func59 rfl rfl rfl (fun w Z => ?_)
  (repeat (first | refine r_end ?_ | (refine r_op ?_; refine r_pure hT rfl rfl rfl rfl rfl rfl ?_) | refine gi_seq ?_ | refine gi_plain ?_))
  refine r_case (d := 5) rfl (fun c5 => ?_) (fun c5 => ?_)
  · (repeat (first | refine r_end ?_ | (refine r_op ?_; refine r_pure hT rfl rfl rfl rfl rfl rfl ?_)))
    refine gi_retW hT Try.func59 rfl rfl [] rfl rfl rfl rfl ?_
    exact ⟨⟨_, rfl⟩, rfl⟩
  · (repeat (first | refine r_end ?_ | (refine r_op ?_; first | refine r_pure hT rfl rfl rfl rfl rfl rfl ?_ | refine r_off rfl rfl rfl rfl rfl ?_)))
    refine gi_retW hT Try.func59 rfl rfl [] rfl rfl rfl rfl ?_
    exact ⟨⟨_, rfl⟩, rfl⟩
theorem KindI_ok (x : Int) : FnR Try.prog 93 [I x] RE := by
  refine fnR_intro (T := TT) (n := 13) Try.func93 rfl rfl rfl (fun w Z => ?_)
  (repeat (first | refine r_end ?_ | (refine r_op ?_; refine r_pure hT rfl rfl rfl rfl rfl rfl ?_) | refine gi_seq ?_ | refine gi_plain ?_))
  refine r_case (d := 5) rfl (fun c5 => ?_) (fun c5 => ?_)
  · (repeat (first | refine r_end ?_ | (refine r_op ?_; first | refine r_pure hT rfl rfl rfl rfl rfl rfl ?_ | refine r_off rfl rfl rfl rfl rfl ?_)))
    refine gi_retW hT Try.func93 rfl rfl [] rfl rfl rfl rfl ?_
    exact ⟨⟨_, rfl⟩, rfl⟩
  · (repeat ((refine r_op ?_; refine r_pure hT rfl rfl rfl rfl rfl rfl ?_)))
    refine r_case (d := 9) rfl (fun c9 => ?_) (fun c9 => ?_)
    · (repeat (first | refine r_end ?_ | (refine r_op ?_; first | refine r_pure hT rfl rfl rfl rfl rfl rfl ?_ | refine r_off rfl rfl rfl rfl rfl ?_)))
      refine gi_retW hT Try.func93 rfl rfl [] rfl rfl rfl rfl ?_
      exact ⟨⟨_, rfl⟩, rfl⟩
    · (repeat (first | refine r_end ?_ | (refine r_op ?_; refine r_pure hT rfl rfl rfl rfl rfl rfl ?_)))
      refine gi_retW hT Try.func93 rfl rfl [] rfl rfl rfl rfl ?_
      exact ⟨⟨_, rfl⟩, rfl⟩
abbrev Ls.hd (x : Ls) : AV := .agg [I x.age, I x.kind, I x.id, I x.adv, I x.seq, I x.sum, I x.len]
theorem headRight_ok (x : Ls) : FnR Try.prog 75 [x.hd] RE := by
  refine fnR_intro (T := TT) (n := 41) Try.func75 rfl rfl rfl (fun w Z => ?_)
  (repeat (first | refine r_end ?_ | (refine r_op ?_; first | refine r_pure hT rfl rfl rfl rfl rfl rfl ?_ | refine r_load hT rfl rfl rfl rfl rfl rfl rfl rfl rfl ?_ | refine r_box rfl rfl rfl rfl rfl rfl rfl rfl rfl ?_) | refine gi_seq ?_ | refine gi_plain ?_))
  refine r_call (KindI_ok _) rfl rfl rfl rfl rfl rfl rfl rfl Try.func93 rfl rfl rfl pRE ?_
  rintro r S1 ⟨⟨b0, rfl⟩, rfl⟩
  (repeat ((refine r_op ?_; refine r_pure hT rfl rfl rfl rfl rfl rfl ?_)))
  refine r_case (d := 6) rfl (fun c6 => ?_) (fun c6 => ?_)
  · (repeat ((refine r_op ?_; first | refine r_pure hT rfl rfl rfl rfl rfl rfl ?_ | refine r_load hT rfl rfl rfl rfl rfl rfl rfl rfl rfl ?_)))
    refine r_case (d := 11) rfl (fun c11 => ?_) (fun c11 => ?_)
    · (repeat ((refine r_op ?_; first | refine r_pure hT rfl rfl rfl rfl rfl rfl ?_ | refine r_load hT rfl rfl rfl rfl rfl rfl rfl rfl rfl ?_)))
      refine r_case (d := 16) rfl (fun c16 => ?_) (fun c16 => ?_)
      · (repeat ((refine r_op ?_; first | refine r_pure hT rfl rfl rfl rfl rfl rfl ?_ | refine r_load hT rfl rfl rfl rfl rfl rfl rfl rfl rfl ?_)))
        refine r_call (RightI_ok _) rfl rfl rfl rfl rfl rfl rfl rfl Try.func59 rfl rfl rfl pRE ?_
        rintro r S1 ⟨⟨b4, rfl⟩, rfl⟩
        (repeat ((refine r_op ?_; refine r_pure hT rfl rfl rfl rfl rfl rfl ?_)))
        refine r_case (d := 21) rfl (fun c21 => ?_) (fun c21 => ?_)
        · (repeat ((refine r_op ?_; first | refine r_pure hT rfl rfl rfl rfl rfl rfl ?_ | refine r_load hT rfl rfl rfl rfl rfl rfl rfl rfl rfl ?_)))
          refine r_call (RightI_ok _) rfl rfl rfl rfl rfl rfl rfl rfl Try.func59 rfl rfl rfl pRE ?_
          rintro r S1 ⟨⟨b6, rfl⟩, rfl⟩
          (repeat ((refine r_op ?_; refine r_pure hT rfl rfl rfl rfl rfl rfl ?_)))
          refine r_case (d := 26) rfl (fun c26 => ?_) (fun c26 => ?_)
          · (repeat ((refine r_op ?_; first | refine r_pure hT rfl rfl rfl rfl rfl rfl ?_ | refine r_load hT rfl rfl rfl rfl rfl rfl rfl rfl rfl ?_)))
            refine r_case (d := 31) rfl (fun c31 => ?_) (fun c31 => ?_)
            · (repeat ((refine r_op ?_; first | refine r_pure hT rfl rfl rfl rfl rfl rfl ?_ | refine r_load hT rfl rfl rfl rfl rfl rfl rfl rfl rfl ?_)))
              refine r_case (d := 36) rfl (fun c36 => ?_) (fun c36 => ?_)
              · (repeat (first | refine r_end ?_ | (refine r_op ?_; first | refine r_pure hT rfl rfl rfl rfl rfl rfl ?_ | refine r_load hT rfl rfl rfl rfl rfl rfl rfl rfl rfl ?_)))
                refine gi_retW hT Try.func75 rfl rfl [] rfl rfl rfl rfl ?_
                exact ⟨⟨_, rfl⟩, rfl⟩
              · (repeat (first | refine r_end ?_ | (refine r_op ?_; first | refine r_pure hT rfl rfl rfl rfl rfl rfl ?_ | refine r_off rfl rfl rfl rfl rfl ?_)))
                refine gi_retW hT Try.func75 rfl rfl [] rfl rfl rfl rfl ?_
                exact ⟨⟨_, rfl⟩, rfl⟩
            · (repeat (first | refine r_end ?_ | (refine r_op ?_; first | refine r_pure hT rfl rfl rfl rfl rfl rfl ?_ | refine r_off rfl rfl rfl rfl rfl ?_)))
              refine gi_retW hT Try.func75 rfl rfl [] rfl rfl rfl rfl ?_
              exact ⟨⟨_, rfl⟩, rfl⟩
          · (repeat (first | refine r_end ?_ | (refine r_op ?_; first | refine r_pure hT rfl rfl rfl rfl rfl rfl ?_ | refine r_off rfl rfl rfl rfl rfl ?_)))
            refine gi_retW hT Try.func75 rfl rfl [] rfl rfl rfl rfl ?_
            exact ⟨⟨_, rfl⟩, rfl⟩
        · (repeat (first | refine r_end ?_ | (refine r_op ?_; first | refine r_pure hT rfl rfl rfl rfl rfl rfl ?_ | refine r_off rfl rfl rfl rfl rfl ?_)))
          refine gi_retW hT Try.func75 rfl rfl [] rfl rfl rfl rfl ?_
          exact ⟨⟨_, rfl⟩, rfl⟩
      · (repeat (first | refine r_end ?_ | (refine r_op ?_; first | refine r_pure hT rfl rfl rfl rfl rfl rfl ?_ | refine r_off rfl rfl rfl rfl rfl ?_)))
        refine gi_retW hT Try.func75 rfl rfl [] rfl rfl rfl rfl ?_
        exact ⟨⟨_, rfl⟩, rfl⟩
    · (repeat (first | refine r_end ?_ | (refine r_op ?_; first | refine r_pure hT rfl rfl rfl rfl rfl rfl ?_ | refine r_off rfl rfl rfl rfl rfl ?_)))
      refine gi_retW hT Try.func75 rfl rfl [] rfl rfl rfl rfl ?_
      exact ⟨⟨_, rfl⟩, rfl⟩
  · (repeat (first | refine r_end ?_ | (refine r_op ?_; first | refine r_pure hT rfl rfl rfl rfl rfl rfl ?_ | refine r_off rfl rfl rfl rfl rfl ?_)))
    refine gi_retW hT Try.func75 rfl rfl [] rfl rfl rfl rfl ?_
    exact ⟨⟨_, rfl⟩, rfl⟩
theorem Great_ok (x : Ls) : FnR Try.prog 41 [x.av] (fun r S => (∃ b, r = Bo b ∧ (b = false → x.lk.length ≤ 70 ∧ x.rt.length ≤ 70 ∧ x.vt.length ≤ 70)) ∧ S = []) := by
  refine fnR_intro (T := TT) (n := 19) Try.func41 rfl rfl rfl (fun w Z => ?_)
  (repeat (first | refine r_end ?_ | (refine r_op ?_; first | refine r_pure hT rfl rfl rfl rfl rfl rfl ?_ | refine r_load hT rfl rfl rfl rfl rfl rfl rfl rfl rfl ?_ | refine r_box rfl rfl rfl rfl rfl rfl rfl rfl rfl ?_) | refine gi_seq ?_ | refine gi_plain ?_))
  refine r_case (d := 7) rfl (fun c1 => ?_) (fun c1 => ?_)
  · (repeat (first | refine r_end ?_ | (refine r_op ?_; first | refine r_pure hT rfl rfl rfl rfl rfl rfl ?_ | refine r_off rfl rfl rfl rfl rfl ?_)))
    refine gi_retW hT Try.func41 rfl rfl [] rfl rfl rfl rfl ?_
    exact ⟨⟨_, rfl, fun h => by cases h⟩, rfl⟩
  · rw [ltB_eq] at c1
    have c1 := of_decide_eq_false c1
    rw [List.length_map] at c1
    (repeat ((refine r_op ?_; first | refine r_pure hT rfl rfl rfl rfl rfl rfl ?_ | refine r_load hT rfl rfl rfl rfl rfl rfl rfl rfl rfl ?_)))
    refine r_case (d := 13) rfl (fun c2 => ?_) (fun c2 => ?_)
    · (repeat (first | refine r_end ?_ | (refine r_op ?_; first | refine r_pure hT rfl rfl rfl rfl rfl rfl ?_ | refine r_off rfl rfl rfl rfl rfl ?_)))
      refine gi_retW hT Try.func41 rfl rfl [] rfl rfl rfl rfl ?_
      exact ⟨⟨_, rfl, fun h => by cases h⟩, rfl⟩
    · rw [ltB_eq] at c2
      have c2 := of_decide_eq_false c2
      rw [List.length_map] at c2
      (repeat (first | refine r_end ?_ | (refine r_op ?_; first | refine r_pure hT rfl rfl rfl rfl rfl rfl ?_ | refine r_load hT rfl rfl rfl rfl rfl rfl rfl rfl rfl ?_)))
      refine gi_retW hT Try.func41 rfl rfl [] rfl rfl rfl rfl ?_
      exact ⟨⟨_, rfl, fun h => by rw [ltB_eq] at h; have h := of_decide_eq_false h; rw [List.length_map] at h; exact ⟨by omega, by omega, by omega⟩⟩, rfl⟩
theorem pGr {x : Ls} : ∀ r S1, ((∃ b, r = Bo b ∧ (b = false → x.lk.length ≤ 70 ∧ x.rt.length ≤ 70 ∧ x.vt.length ≤ 70)) ∧ S1 = []) → plainA r = true ∧ PlainS S1 := by
  rintro r S ⟨⟨b, rfl, _⟩, rfl⟩
  exact ⟨rfl, PlainS.nil⟩
theorem KeyOf_ok (x : Ls) : FnR Try.prog 43 [x.hd] (fun r S => r = .agg [I x.kind, I x.id, I x.adv] ∧ S = []) := by
  refine fnR_intro (T := TT) (n := 10) Try.func43 rfl rfl rfl (fun w Z => ?_)
  (repeat (first | refine r_end ?_ | (refine r_op ?_; first | refine r_pure hT rfl rfl rfl rfl rfl rfl ?_ | refine r_load hT rfl rfl rfl rfl rfl rfl rfl rfl rfl ?_ | refine r_box rfl rfl rfl rfl rfl rfl rfl rfl rfl ?_ | refine r_store hT rfl rfl rfl rfl rfl rfl rfl rfl rfl rfl ?_ | refine r_alloc hT rfl rfl rfl rfl rfl rfl rfl rfl rfl ?_) | refine gi_seq ?_ | refine gi_plain ?_))
  refine gi_retW hT Try.func43 rfl rfl [] rfl rfl rfl rfl ?_
  exact ⟨rfl, rfl⟩
theorem RightLsa_ok (x : Ls) (h1 : x.lk.length < 1000000) (h2 : x.rt.length < 1000000) (h3 : x.vt.length < 1000000) : FnR Try.prog 42 [x.av] RE := by
  refine fnR_intro (T := TT) (n := 180) Try.func42 rfl rfl rfl (fun w Z => ?_)
  (repeat (first | refine r_end ?_ | (refine r_op ?_; first | refine r_pure hT rfl rfl rfl rfl rfl rfl ?_ | refine r_load hT rfl rfl rfl rfl rfl rfl rfl rfl rfl ?_ | refine r_box rfl rfl rfl rfl rfl rfl rfl rfl rfl ?_) | refine gi_seq ?_ | refine gi_plain ?_))
  refine r_call (headRight_ok x) rfl rfl rfl rfl rfl rfl rfl rfl Try.func75 rfl rfl rfl pRE ?_
  rintro r S1 ⟨⟨b0, rfl⟩, rfl⟩
  (repeat ((refine r_op ?_; refine r_pure hT rfl rfl rfl rfl rfl rfl ?_)))
  refine r_case (d := 12) rfl (fun c12 => ?_) (fun c12 => ?_)
  · (repeat (first | refine r_end ?_ | (refine r_op ?_; first | refine r_pure hT rfl rfl rfl rfl rfl rfl ?_ | refine r_off rfl rfl rfl rfl rfl ?_) | refine gi_seq ?_ | refine gi_plain ?_ | (refine gi_cnd ?_; first | refine gi_true rfl ?_ | refine gi_false rfl ?_)))
    refine gi_retW hT Try.func42 rfl rfl [] rfl rfl rfl rfl ?_
    exact ⟨⟨_, rfl⟩, rfl⟩
  · (repeat ((refine r_op ?_; first | refine r_pure hT rfl rfl rfl rfl rfl rfl ?_ | refine r_load hT rfl rfl rfl rfl rfl rfl rfl rfl rfl ?_)))
    refine r_case (d := 17) rfl (fun c17 => ?_) (fun c17 => ?_)
    · (repeat (first | refine r_end ?_ | (refine r_op ?_; first | refine r_pure hT rfl rfl rfl rfl rfl rfl ?_ | refine r_off rfl rfl rfl rfl rfl ?_) | refine gi_seq ?_ | refine gi_plain ?_ | (refine gi_cnd ?_; first | refine gi_true rfl ?_ | refine gi_false rfl ?_)))
      refine gi_retW hT Try.func42 rfl rfl [] rfl rfl rfl rfl ?_
      exact ⟨⟨_, rfl⟩, rfl⟩
    · (repeat ((refine r_op ?_; first | refine r_pure hT rfl rfl rfl rfl rfl rfl ?_ | refine r_load hT rfl rfl rfl rfl rfl rfl rfl rfl rfl ?_)))
      refine r_case (d := 22) rfl (fun c22 => ?_) (fun c22 => ?_)
      · (repeat (first | refine r_end ?_ | (refine r_op ?_; first | refine r_pure hT rfl rfl rfl rfl rfl rfl ?_ | refine r_off rfl rfl rfl rfl rfl ?_) | refine gi_seq ?_ | refine gi_plain ?_ | (refine gi_cnd ?_; first | refine gi_true rfl ?_ | refine gi_false rfl ?_)))
        refine gi_retW hT Try.func42 rfl rfl [] rfl rfl rfl rfl ?_
        exact ⟨⟨_, rfl⟩, rfl⟩
      · (repeat ((refine r_op ?_; first | refine r_pure hT rfl rfl rfl rfl rfl rfl ?_ | refine r_load hT rfl rfl rfl rfl rfl rfl rfl rfl rfl ?_)))
        refine r_case (d := 28) rfl (fun c28 => ?_) (fun c28 => ?_)
        · (repeat (first | refine r_end ?_ | (refine r_op ?_; first | refine r_pure hT rfl rfl rfl rfl rfl rfl ?_ | refine r_off rfl rfl rfl rfl rfl ?_) | refine gi_seq ?_ | refine gi_plain ?_ | (refine gi_cnd ?_; first | refine gi_true rfl ?_ | refine gi_false rfl ?_)))
          refine gi_retW hT Try.func42 rfl rfl [] rfl rfl rfl rfl ?_
          exact ⟨⟨_, rfl⟩, rfl⟩
        · (repeat ((refine r_op ?_; first | refine r_pure hT rfl rfl rfl rfl rfl rfl ?_ | refine r_load hT rfl rfl rfl rfl rfl rfl rfl rfl rfl ?_)))
          refine r_case (d := 33) rfl (fun c33 => ?_) (fun c33 => ?_)
          · (repeat (first | refine r_end ?_ | (refine r_op ?_; first | refine r_pure hT rfl rfl rfl rfl rfl rfl ?_ | refine r_off rfl rfl rfl rfl rfl ?_) | refine gi_seq ?_ | refine gi_plain ?_ | (refine gi_cnd ?_; first | refine gi_true rfl ?_ | refine gi_false rfl ?_)))
            refine gi_retW hT Try.func42 rfl rfl [] rfl rfl rfl rfl ?_
            exact ⟨⟨_, rfl⟩, rfl⟩
          · (repeat ((refine r_op ?_; first | refine r_pure hT rfl rfl rfl rfl rfl rfl ?_ | refine r_load hT rfl rfl rfl rfl rfl rfl rfl rfl rfl ?_)))
            refine r_case (d := 38) rfl (fun c38 => ?_) (fun c38 => ?_)
            · (repeat (first | refine r_end ?_ | (refine r_op ?_; first | refine r_pure hT rfl rfl rfl rfl rfl rfl ?_ | refine r_off rfl rfl rfl rfl rfl ?_) | refine gi_seq ?_ | refine gi_plain ?_ | (refine gi_cnd ?_; first | refine gi_true rfl ?_ | refine gi_false rfl ?_)))
              refine gi_retW hT Try.func42 rfl rfl [] rfl rfl rfl rfl ?_
              exact ⟨⟨_, rfl⟩, rfl⟩
            · (repeat ((refine r_op ?_; first | refine r_pure hT rfl rfl rfl rfl rfl rfl ?_ | refine r_load hT rfl rfl rfl rfl rfl rfl rfl rfl rfl ?_)))
              refine r_case (d := 44) rfl (fun c44 => ?_) (fun c44 => ?_)
              · (repeat (first | refine r_end ?_ | (refine r_op ?_; first | refine r_pure hT rfl rfl rfl rfl rfl rfl ?_ | refine r_off rfl rfl rfl rfl rfl ?_) | refine gi_seq ?_ | refine gi_plain ?_ | (refine gi_cnd ?_; first | refine gi_true rfl ?_ | refine gi_false rfl ?_)))
                refine gi_retW hT Try.func42 rfl rfl [] rfl rfl rfl rfl ?_
                exact ⟨⟨_, rfl⟩, rfl⟩
              · (repeat (first | refine r_end ?_ | (refine r_op ?_; first | refine r_pure hT rfl rfl rfl rfl rfl rfl ?_ | refine r_load hT rfl rfl rfl rfl rfl rfl rfl rfl rfl ?_)))
                refine gi_cond rfl (fun d1 => ?_) (fun d1 => ?_)
                · (repeat (first | refine r_end ?_ | (refine r_op ?_; refine r_pure hT rfl rfl rfl rfl rfl rfl ?_) | refine gi_seq ?_ | refine gi_plain ?_))
                  refine gi_retW hT Try.func42 rfl rfl [] rfl rfl rfl rfl ?_
                  exact ⟨⟨_, rfl⟩, rfl⟩
                · (repeat (first | refine r_end ?_ | (refine r_op ?_; first | refine r_pure hT rfl rfl rfl rfl rfl rfl ?_ | refine r_load hT rfl rfl rfl rfl rfl rfl rfl rfl rfl ?_) | refine gi_seq ?_ | refine gi_plain_ne 4 rfl ?_ | refine gi_skip ?_))
                  apply gi_cut (σ := Unit) (fun _ => [(1, .box 0 0)]) (fun _ => [hLs x]) (fun _ => []) (fun _ => True) (fun _ => rfl)
                  case first =>
                    intro fin
                    (repeat (first | (refine r_op ?_; refine r_pure hT rfl rfl rfl rfl rfl rfl ?_) | refine gi_plain ?_))
                    refine r_case (d := 55) rfl (fun c55 => ?_) (fun c55 => ?_)
                    · (repeat ((refine r_op ?_; first | refine r_pure hT rfl rfl rfl rfl rfl rfl ?_ | refine r_load hT rfl rfl rfl rfl rfl rfl rfl rfl rfl ?_)))
                      refine r_case (d := 59) rfl (fun c59 => ?_) (fun c59 => ?_)
                      · (repeat (first | refine r_end ?_ | (refine r_op ?_; first | refine r_pure hT rfl rfl rfl rfl rfl rfl ?_ | refine r_off rfl rfl rfl rfl rfl ?_) | refine gi_seq ?_ | refine gi_plain ?_ | (refine gi_cnd ?_; first | refine gi_true rfl ?_ | refine gi_false rfl ?_)))
                        refine gi_retW hT Try.func42 rfl rfl [] rfl rfl rfl rfl ?_
                        exact ⟨⟨_, rfl⟩, rfl⟩
                      · (repeat ((refine r_op ?_; first | refine r_pure hT rfl rfl rfl rfl rfl rfl ?_ | refine r_load hT rfl rfl rfl rfl rfl rfl rfl rfl rfl ?_)))
                        refine r_case (d := 66) rfl (fun c66 => ?_) (fun c66 => ?_)
                        · (repeat (first | refine r_end ?_ | (refine r_op ?_; first | refine r_pure hT rfl rfl rfl rfl rfl rfl ?_ | refine r_off rfl rfl rfl rfl rfl ?_) | refine gi_seq ?_ | refine gi_plain ?_ | (refine gi_cnd ?_; first | refine gi_true rfl ?_ | refine gi_false rfl ?_)))
                          refine gi_retW hT Try.func42 rfl rfl [] rfl rfl rfl rfl ?_
                          exact ⟨⟨_, rfl⟩, rfl⟩
                        · (repeat ((refine r_op ?_; refine r_pure hT rfl rfl rfl rfl rfl rfl ?_)))
                          refine r_case (d := 69) rfl (fun c69 => ?_) (fun c69 => ?_)
                          · (repeat ((refine r_op ?_; first | refine r_pure hT rfl rfl rfl rfl rfl rfl ?_ | refine r_load hT rfl rfl rfl rfl rfl rfl rfl rfl rfl ?_)))
                            refine r_case (d := 73) rfl (fun c73 => ?_) (fun c73 => ?_)
                            · (repeat (first | refine r_end ?_ | (refine r_op ?_; first | refine r_pure hT rfl rfl rfl rfl rfl rfl ?_ | refine r_off rfl rfl rfl rfl rfl ?_) | refine gi_seq ?_ | refine gi_plain ?_ | (refine gi_cnd ?_; first | refine gi_true rfl ?_ | refine gi_false rfl ?_)))
                              refine gi_retW hT Try.func42 rfl rfl [] rfl rfl rfl rfl ?_
                              exact ⟨⟨_, rfl⟩, rfl⟩
                            · (repeat ((refine r_op ?_; first | refine r_pure hT rfl rfl rfl rfl rfl rfl ?_ | refine r_load hT rfl rfl rfl rfl rfl rfl rfl rfl rfl ?_)))
                              refine r_case (d := 81) rfl (fun c81 => ?_) (fun c81 => ?_)
                              · (repeat (first | refine r_end ?_ | (refine r_op ?_; first | refine r_pure hT rfl rfl rfl rfl rfl rfl ?_ | refine r_off rfl rfl rfl rfl rfl ?_) | refine gi_seq ?_ | refine gi_plain ?_ | (refine gi_cnd ?_; first | refine gi_true rfl ?_ | refine gi_false rfl ?_)))
                                refine gi_retW hT Try.func42 rfl rfl [] rfl rfl rfl rfl ?_
                                exact ⟨⟨_, rfl⟩, rfl⟩
                              · (repeat ((refine r_op ?_; refine r_pure hT rfl rfl rfl rfl rfl rfl ?_)))
                                refine r_case (d := 84) rfl (fun c84 => ?_) (fun c84 => ?_)
                                · (repeat (first | refine r_end ?_ | (refine r_op ?_; first | refine r_pure hT rfl rfl rfl rfl rfl rfl ?_ | refine r_load hT rfl rfl rfl rfl rfl rfl rfl rfl rfl ?_)))
                                  refine gi_cond rfl (fun d1 => ?_) (fun d1 => ?_)
                                  · (repeat (first | refine r_end ?_ | (refine r_op ?_; refine r_pure hT rfl rfl rfl rfl rfl rfl ?_) | refine gi_seq ?_ | refine gi_plain ?_))
                                    refine gi_retW hT Try.func42 rfl rfl [] rfl rfl rfl rfl ?_
                                    exact ⟨⟨_, rfl⟩, rfl⟩
                                  · (repeat (first | refine gi_seq ?_ | refine gi_skip ?_))
                                    exact fin () _ _ _ trivial ⟨rfl, trivial⟩ ⟨rfl, trivial⟩ trivial
                                · (repeat (first | refine r_end ?_ | (refine r_op ?_; first | refine r_pure hT rfl rfl rfl rfl rfl rfl ?_ | refine r_off rfl rfl rfl rfl rfl ?_) | refine gi_seq ?_ | refine gi_skip ?_ | (refine gi_cnd ?_; first | refine gi_true rfl ?_ | refine gi_false rfl ?_)))
                                  exact fin () _ _ _ trivial ⟨rfl, trivial⟩ ⟨rfl, trivial⟩ trivial
                          · (repeat ((refine r_op ?_; first | refine r_pure hT rfl rfl rfl rfl rfl rfl ?_ | refine r_off rfl rfl rfl rfl rfl ?_)))
                            refine r_case (d := 84) rfl (fun c84 => ?_) (fun c84 => ?_)
                            · (repeat (first | refine r_end ?_ | (refine r_op ?_; first | refine r_pure hT rfl rfl rfl rfl rfl rfl ?_ | refine r_load hT rfl rfl rfl rfl rfl rfl rfl rfl rfl ?_)))
                              refine gi_cond rfl (fun d1 => ?_) (fun d1 => ?_)
                              · (repeat (first | refine r_end ?_ | (refine r_op ?_; refine r_pure hT rfl rfl rfl rfl rfl rfl ?_) | refine gi_seq ?_ | refine gi_plain ?_))
                                refine gi_retW hT Try.func42 rfl rfl [] rfl rfl rfl rfl ?_
                                exact ⟨⟨_, rfl⟩, rfl⟩
                              · (repeat (first | refine gi_seq ?_ | refine gi_skip ?_))
                                exact fin () _ _ _ trivial ⟨rfl, trivial⟩ ⟨rfl, trivial⟩ trivial
                            · (repeat (first | refine r_end ?_ | (refine r_op ?_; first | refine r_pure hT rfl rfl rfl rfl rfl rfl ?_ | refine r_off rfl rfl rfl rfl rfl ?_) | refine gi_seq ?_ | refine gi_skip ?_ | (refine gi_cnd ?_; first | refine gi_true rfl ?_ | refine gi_false rfl ?_)))
                              exact fin () _ _ _ trivial ⟨rfl, trivial⟩ ⟨rfl, trivial⟩ trivial
                    · (repeat ((refine r_op ?_; first | refine r_pure hT rfl rfl rfl rfl rfl rfl ?_ | refine r_off rfl rfl rfl rfl rfl ?_)))
                      refine r_case (d := 69) rfl (fun c69 => ?_) (fun c69 => ?_)
                      · (repeat ((refine r_op ?_; first | refine r_pure hT rfl rfl rfl rfl rfl rfl ?_ | refine r_load hT rfl rfl rfl rfl rfl rfl rfl rfl rfl ?_)))
                        refine r_case (d := 73) rfl (fun c73 => ?_) (fun c73 => ?_)
                        · (repeat (first | refine r_end ?_ | (refine r_op ?_; first | refine r_pure hT rfl rfl rfl rfl rfl rfl ?_ | refine r_off rfl rfl rfl rfl rfl ?_) | refine gi_seq ?_ | refine gi_plain ?_ | (refine gi_cnd ?_; first | refine gi_true rfl ?_ | refine gi_false rfl ?_)))
                          refine gi_retW hT Try.func42 rfl rfl [] rfl rfl rfl rfl ?_
                          exact ⟨⟨_, rfl⟩, rfl⟩
                        · (repeat ((refine r_op ?_; first | refine r_pure hT rfl rfl rfl rfl rfl rfl ?_ | refine r_load hT rfl rfl rfl rfl rfl rfl rfl rfl rfl ?_)))
                          refine r_case (d := 81) rfl (fun c81 => ?_) (fun c81 => ?_)
                          · (repeat (first | refine r_end ?_ | (refine r_op ?_; first | refine r_pure hT rfl rfl rfl rfl rfl rfl ?_ | refine r_off rfl rfl rfl rfl rfl ?_) | refine gi_seq ?_ | refine gi_plain ?_ | (refine gi_cnd ?_; first | refine gi_true rfl ?_ | refine gi_false rfl ?_)))
                            refine gi_retW hT Try.func42 rfl rfl [] rfl rfl rfl rfl ?_
                            exact ⟨⟨_, rfl⟩, rfl⟩
                          · (repeat ((refine r_op ?_; refine r_pure hT rfl rfl rfl rfl rfl rfl ?_)))
                            refine r_case (d := 84) rfl (fun c84 => ?_) (fun c84 => ?_)
                            · (repeat (first | refine r_end ?_ | (refine r_op ?_; first | refine r_pure hT rfl rfl rfl rfl rfl rfl ?_ | refine r_load hT rfl rfl rfl rfl rfl rfl rfl rfl rfl ?_)))
                              refine gi_cond rfl (fun d1 => ?_) (fun d1 => ?_)
                              · (repeat (first | refine r_end ?_ | (refine r_op ?_; refine r_pure hT rfl rfl rfl rfl rfl rfl ?_) | refine gi_seq ?_ | refine gi_plain ?_))
                                refine gi_retW hT Try.func42 rfl rfl [] rfl rfl rfl rfl ?_
                                exact ⟨⟨_, rfl⟩, rfl⟩
                              · (repeat (first | refine gi_seq ?_ | refine gi_skip ?_))
                                exact fin () _ _ _ trivial ⟨rfl, trivial⟩ ⟨rfl, trivial⟩ trivial
                            · (repeat (first | refine r_end ?_ | (refine r_op ?_; first | refine r_pure hT rfl rfl rfl rfl rfl rfl ?_ | refine r_off rfl rfl rfl rfl rfl ?_) | refine gi_seq ?_ | refine gi_skip ?_ | (refine gi_cnd ?_; first | refine gi_true rfl ?_ | refine gi_false rfl ?_)))
                              exact fin () _ _ _ trivial ⟨rfl, trivial⟩ ⟨rfl, trivial⟩ trivial
                      · (repeat ((refine r_op ?_; first | refine r_pure hT rfl rfl rfl rfl rfl rfl ?_ | refine r_off rfl rfl rfl rfl rfl ?_)))
                        refine r_case (d := 84) rfl (fun c84 => ?_) (fun c84 => ?_)
                        · (repeat (first | refine r_end ?_ | (refine r_op ?_; first | refine r_pure hT rfl rfl rfl rfl rfl rfl ?_ | refine r_load hT rfl rfl rfl rfl rfl rfl rfl rfl rfl ?_)))
                          refine gi_cond rfl (fun d1 => ?_) (fun d1 => ?_)
                          · (repeat (first | refine r_end ?_ | (refine r_op ?_; refine r_pure hT rfl rfl rfl rfl rfl rfl ?_) | refine gi_seq ?_ | refine gi_plain ?_))
                            refine gi_retW hT Try.func42 rfl rfl [] rfl rfl rfl rfl ?_
                            exact ⟨⟨_, rfl⟩, rfl⟩
                          · (repeat (first | refine gi_seq ?_ | refine gi_skip ?_))
                            exact fin () _ _ _ trivial ⟨rfl, trivial⟩ ⟨rfl, trivial⟩ trivial
                        · (repeat (first | refine r_end ?_ | (refine r_op ?_; first | refine r_pure hT rfl rfl rfl rfl rfl rfl ?_ | refine r_off rfl rfl rfl rfl rfl ?_) | refine gi_seq ?_ | refine gi_skip ?_ | (refine gi_cnd ?_; first | refine gi_true rfl ?_ | refine gi_false rfl ?_)))
                          exact fin () _ _ _ trivial ⟨rfl, trivial⟩ ⟨rfl, trivial⟩ trivial
                  case after =>
                    intro _ _
                    (repeat (first | refine r_end ?_ | (refine r_op ?_; refine r_pure hT rfl rfl rfl rfl rfl rfl ?_) | refine gi_plain ?_ | refine gi_block ?_))
                    refine gi_loop (σ := Nat) (fun j => [(4, I j), (1, .box 0 0)]) (fun _ => [hLs x]) (fun _ => []) (fun j => j ≤ x.lk.length) (fun j => x.lk.length - j) 0 (Nat.zero_le _) ⟨rfl, rfl, trivial⟩ ⟨rfl, trivial⟩ trivial (fun _ => rfl) (fun j hj next => ?_)
                    have hj : j ≤ x.lk.length := hj
                    (repeat (first | refine r_end ?_ | (refine r_op ?_; first | refine r_pure hT rfl rfl rfl rfl rfl rfl ?_ | refine r_load hT rfl rfl rfl rfl rfl rfl rfl rfl rfl ?_) | refine gi_seq ?_ | refine gi_plain ?_))
                    refine gi_lt (q := ((x.lk.map Lk.row).length : Int)) rfl (fun h3 => ?_) (fun h3 => ?_)
                    · rw [List.length_map] at h3
                      have hjl : j < x.lk.length := by omega
                      obtain ⟨y, hy⟩ : ∃ y, x.lk[j]? = some y := ⟨_, List.getElem?_eq_getElem hjl⟩
                      have on : ∀ F1 H1 S1, SubF [(4, I (wr .i64 ((j : Int) + 1))), (1, .box 0 0)] F1 → SubH [hLs x] H1 → SubS [] S1 → GI _ _ F1 H1 S1 := fun F1 H1 S1 hF hH hS => by
                        refine next (j + 1) F1 H1 S1 hjl (by omega) ?_ hH hS
                        rw [wr_i64 (by omega) (by omega)] at hF
                        simpa using hF
                      (repeat (first | (refine r_op ?_; first | refine r_pure hT rfl rfl rfl rfl rfl rfl ?_ | refine r_load hT rfl rfl rfl rfl rfl rfl rfl rfl rfl ?_) | refine gi_seq ?_ | refine gi_plain ?_ | refine gi_skip ?_ | refine gi_block ?_))
                      refine r_thaw 99 rfl ?_
                      refine r_idx (row := y.row) hT rfl rfl rfl rfl rfl rfl rfl rfl rfl rfl rfl rfl (by omega) (by simp [hy]) ?_
                      (repeat (first | refine r_end ?_ | (refine r_op ?_; first | refine r_pure hT rfl rfl rfl rfl rfl rfl ?_ | refine r_load hT rfl rfl rfl rfl rfl rfl rfl rfl rfl ?_ | refine r_store hT rfl rfl rfl rfl rfl rfl rfl rfl rfl rfl ?_ | refine r_alloc hT rfl rfl rfl rfl rfl rfl rfl rfl rfl ?_) | refine gi_seq ?_ | refine gi_plain ?_))
                      refine r_case (d := 106) rfl (fun c106 => ?_) (fun c106 => ?_)
                      · (repeat (first | refine r_end ?_ | (refine r_op ?_; first | refine r_pure hT rfl rfl rfl rfl rfl rfl ?_ | refine r_off rfl rfl rfl rfl rfl ?_) | refine gi_seq ?_ | refine gi_plain ?_ | (refine gi_cnd ?_; first | refine gi_true rfl ?_ | refine gi_false rfl ?_)))
                        refine gi_retW hT Try.func42 rfl rfl [] rfl rfl rfl rfl ?_
                        exact ⟨⟨_, rfl⟩, rfl⟩
                      · (repeat ((refine r_op ?_; first | refine r_pure hT rfl rfl rfl rfl rfl rfl ?_ | refine r_load hT rfl rfl rfl rfl rfl rfl rfl rfl rfl ?_)))
                        refine r_case (d := 111) rfl (fun c111 => ?_) (fun c111 => ?_)
                        · (repeat (first | refine r_end ?_ | (refine r_op ?_; first | refine r_pure hT rfl rfl rfl rfl rfl rfl ?_ | refine r_off rfl rfl rfl rfl rfl ?_) | refine gi_seq ?_ | refine gi_plain ?_ | (refine gi_cnd ?_; first | refine gi_true rfl ?_ | refine gi_false rfl ?_)))
                          refine gi_retW hT Try.func42 rfl rfl [] rfl rfl rfl rfl ?_
                          exact ⟨⟨_, rfl⟩, rfl⟩
                        · (repeat ((refine r_op ?_; first | refine r_pure hT rfl rfl rfl rfl rfl rfl ?_ | refine r_load hT rfl rfl rfl rfl rfl rfl rfl rfl rfl ?_)))
                          refine r_call (RightI_ok _) rfl rfl rfl rfl rfl rfl rfl rfl Try.func59 rfl rfl rfl pRE ?_
                          rintro r S1 ⟨⟨b1, rfl⟩, rfl⟩
                          (repeat ((refine r_op ?_; refine r_pure hT rfl rfl rfl rfl rfl rfl ?_)))
                          refine r_case (d := 117) rfl (fun c117 => ?_) (fun c117 => ?_)
                          · (repeat (first | refine r_end ?_ | (refine r_op ?_; first | refine r_pure hT rfl rfl rfl rfl rfl rfl ?_ | refine r_off rfl rfl rfl rfl rfl ?_) | refine gi_seq ?_ | refine gi_plain ?_ | (refine gi_cnd ?_; first | refine gi_true rfl ?_ | refine gi_false rfl ?_)))
                            refine gi_retW hT Try.func42 rfl rfl [] rfl rfl rfl rfl ?_
                            exact ⟨⟨_, rfl⟩, rfl⟩
                          · (repeat ((refine r_op ?_; first | refine r_pure hT rfl rfl rfl rfl rfl rfl ?_ | refine r_load hT rfl rfl rfl rfl rfl rfl rfl rfl rfl ?_)))
                            refine r_call (RightI_ok _) rfl rfl rfl rfl rfl rfl rfl rfl Try.func59 rfl rfl rfl pRE ?_
                            rintro r S1 ⟨⟨b1, rfl⟩, rfl⟩
                            (repeat ((refine r_op ?_; refine r_pure hT rfl rfl rfl rfl rfl rfl ?_)))
                            refine r_case (d := 123) rfl (fun c123 => ?_) (fun c123 => ?_)
                            · (repeat (first | refine r_end ?_ | (refine r_op ?_; first | refine r_pure hT rfl rfl rfl rfl rfl rfl ?_ | refine r_off rfl rfl rfl rfl rfl ?_) | refine gi_seq ?_ | refine gi_plain ?_ | (refine gi_cnd ?_; first | refine gi_true rfl ?_ | refine gi_false rfl ?_)))
                              refine gi_retW hT Try.func42 rfl rfl [] rfl rfl rfl rfl ?_
                              exact ⟨⟨_, rfl⟩, rfl⟩
                            · (repeat ((refine r_op ?_; first | refine r_pure hT rfl rfl rfl rfl rfl rfl ?_ | refine r_load hT rfl rfl rfl rfl rfl rfl rfl rfl rfl ?_)))
                              refine r_case (d := 128) rfl (fun c128 => ?_) (fun c128 => ?_)
                              · (repeat (first | refine r_end ?_ | (refine r_op ?_; first | refine r_pure hT rfl rfl rfl rfl rfl rfl ?_ | refine r_off rfl rfl rfl rfl rfl ?_) | refine gi_seq ?_ | refine gi_plain ?_ | (refine gi_cnd ?_; first | refine gi_true rfl ?_ | refine gi_false rfl ?_)))
                                refine gi_retW hT Try.func42 rfl rfl [] rfl rfl rfl rfl ?_
                                exact ⟨⟨_, rfl⟩, rfl⟩
                              · (repeat (first | refine r_end ?_ | (refine r_op ?_; first | refine r_pure hT rfl rfl rfl rfl rfl rfl ?_ | refine r_load hT rfl rfl rfl rfl rfl rfl rfl rfl rfl ?_)))
                                refine gi_cond rfl (fun d1 => ?_) (fun d1 => ?_)
                                · (repeat (first | refine r_end ?_ | (refine r_op ?_; refine r_pure hT rfl rfl rfl rfl rfl rfl ?_) | refine gi_seq ?_ | refine gi_plain ?_))
                                  refine gi_retW hT Try.func42 rfl rfl [] rfl rfl rfl rfl ?_
                                  exact ⟨⟨_, rfl⟩, rfl⟩
                                · (repeat (first | refine r_end ?_ | (refine r_op ?_; refine r_pure hT rfl rfl rfl rfl rfl rfl ?_) | refine gi_plain ?_ | refine gi_skip ?_ | refine gi_inBlock ?_))
                                  exact on _ _ _ ⟨rfl, rfl, trivial⟩ ⟨rfl, trivial⟩ trivial
                    · (repeat (first | refine r_end ?_ | (refine r_op ?_; refine r_pure hT rfl rfl rfl rfl rfl rfl ?_) | refine gi_seq ?_ | refine gi_plain ?_ | refine gi_block ?_ | refine gi_exit rfl ?_))
                      refine gi_loop (σ := Nat) (fun j => [(6, I j), (1, .box 0 0)]) (fun _ => [hLs x]) (fun _ => []) (fun j => j ≤ x.rt.length) (fun j => x.rt.length - j) 0 (Nat.zero_le _) ⟨rfl, rfl, trivial⟩ ⟨rfl, trivial⟩ trivial (fun _ => rfl) (fun j hj next => ?_)
                      have hj : j ≤ x.rt.length := hj
                      (repeat (first | refine r_end ?_ | (refine r_op ?_; first | refine r_pure hT rfl rfl rfl rfl rfl rfl ?_ | refine r_load hT rfl rfl rfl rfl rfl rfl rfl rfl rfl ?_) | refine gi_seq ?_ | refine gi_plain ?_))
                      refine gi_lt (q := ((x.rt.map nRow).length : Int)) rfl (fun h3 => ?_) (fun h3 => ?_)
                      · rw [List.length_map] at h3
                        have hjl : j < x.rt.length := by omega
                        obtain ⟨y, hy⟩ : ∃ y, x.rt[j]? = some y := ⟨_, List.getElem?_eq_getElem hjl⟩
                        have on : ∀ F1 H1 S1, SubF [(6, I (wr .i64 ((j : Int) + 1))), (1, .box 0 0)] F1 → SubH [hLs x] H1 → SubS [] S1 → GI _ _ F1 H1 S1 := fun F1 H1 S1 hF hH hS => by
                          refine next (j + 1) F1 H1 S1 hjl (by omega) ?_ hH hS
                          rw [wr_i64 (by omega) (by omega)] at hF
                          simpa using hF
                        (repeat (first | (refine r_op ?_; first | refine r_pure hT rfl rfl rfl rfl rfl rfl ?_ | refine r_load hT rfl rfl rfl rfl rfl rfl rfl rfl rfl ?_) | refine gi_seq ?_ | refine gi_plain ?_ | refine gi_skip ?_ | refine gi_block ?_))
                        refine r_thaw 141 rfl ?_
                        refine r_idx (row := nRow y) hT rfl rfl rfl rfl rfl rfl rfl rfl rfl rfl rfl rfl (by omega) (by simp [hy]) ?_
                        (repeat ((refine r_op ?_; refine r_load hT rfl rfl rfl rfl rfl rfl rfl rfl rfl ?_)))
                        refine r_call (RightI_ok _) rfl rfl rfl rfl rfl rfl rfl rfl Try.func59 rfl rfl rfl pRE ?_
                        rintro r S1 ⟨⟨b1, rfl⟩, rfl⟩
                        (repeat (first | refine r_end ?_ | (refine r_op ?_; refine r_pure hT rfl rfl rfl rfl rfl rfl ?_)))
                        refine gi_cond rfl (fun d1 => ?_) (fun d1 => ?_)
                        · (repeat (first | refine r_end ?_ | (refine r_op ?_; refine r_pure hT rfl rfl rfl rfl rfl rfl ?_) | refine gi_seq ?_ | refine gi_plain ?_))
                          refine gi_retW hT Try.func42 rfl rfl [] rfl rfl rfl rfl ?_
                          exact ⟨⟨_, rfl⟩, rfl⟩
                        · (repeat (first | refine r_end ?_ | (refine r_op ?_; refine r_pure hT rfl rfl rfl rfl rfl rfl ?_) | refine gi_plain ?_ | refine gi_skip ?_ | refine gi_inBlock ?_))
                          exact on _ _ _ ⟨rfl, rfl, trivial⟩ ⟨rfl, trivial⟩ trivial
                      · (repeat (first | refine r_end ?_ | (refine r_op ?_; refine r_pure hT rfl rfl rfl rfl rfl rfl ?_) | refine gi_seq ?_ | refine gi_plain ?_ | refine gi_block ?_ | refine gi_exit rfl ?_))
                        refine gi_loop (σ := Nat) (fun j => [(7, I j), (1, .box 0 0)]) (fun _ => [hLs x]) (fun _ => []) (fun j => j ≤ x.vt.length) (fun j => x.vt.length - j) 0 (Nat.zero_le _) ⟨rfl, rfl, trivial⟩ ⟨rfl, trivial⟩ trivial (fun _ => rfl) (fun j hj next => ?_)
                        have hj : j ≤ x.vt.length := hj
                        (repeat (first | refine r_end ?_ | (refine r_op ?_; first | refine r_pure hT rfl rfl rfl rfl rfl rfl ?_ | refine r_load hT rfl rfl rfl rfl rfl rfl rfl rfl rfl ?_) | refine gi_seq ?_ | refine gi_plain ?_))
                        refine gi_lt (q := ((x.vt.map Vt.row).length : Int)) rfl (fun h3 => ?_) (fun h3 => ?_)
                        · rw [List.length_map] at h3
                          have hjl : j < x.vt.length := by omega
                          obtain ⟨y, hy⟩ : ∃ y, x.vt[j]? = some y := ⟨_, List.getElem?_eq_getElem hjl⟩
                          have on : ∀ F1 H1 S1, SubF [(7, I (wr .i64 ((j : Int) + 1))), (1, .box 0 0)] F1 → SubH [hLs x] H1 → SubS [] S1 → GI _ _ F1 H1 S1 := fun F1 H1 S1 hF hH hS => by
                            refine next (j + 1) F1 H1 S1 hjl (by omega) ?_ hH hS
                            rw [wr_i64 (by omega) (by omega)] at hF
                            simpa using hF
                          (repeat (first | (refine r_op ?_; first | refine r_pure hT rfl rfl rfl rfl rfl rfl ?_ | refine r_load hT rfl rfl rfl rfl rfl rfl rfl rfl rfl ?_) | refine gi_seq ?_ | refine gi_plain ?_ | refine gi_skip ?_ | refine gi_block ?_))
                          refine r_thaw 155 rfl ?_
                          refine r_idx (row := y.row) hT rfl rfl rfl rfl rfl rfl rfl rfl rfl rfl rfl rfl (by omega) (by simp [hy]) ?_
                          (repeat ((refine r_op ?_; first | refine r_pure hT rfl rfl rfl rfl rfl rfl ?_ | refine r_load hT rfl rfl rfl rfl rfl rfl rfl rfl rfl ?_)))
                          refine r_case (d := 161) rfl (fun c161 => ?_) (fun c161 => ?_)
                          · (repeat (first | refine r_end ?_ | (refine r_op ?_; first | refine r_pure hT rfl rfl rfl rfl rfl rfl ?_ | refine r_off rfl rfl rfl rfl rfl ?_) | refine gi_seq ?_ | refine gi_plain ?_ | (refine gi_cnd ?_; first | refine gi_true rfl ?_ | refine gi_false rfl ?_)))
                            refine gi_retW hT Try.func42 rfl rfl [] rfl rfl rfl rfl ?_
                            exact ⟨⟨_, rfl⟩, rfl⟩
                          · (repeat ((refine r_op ?_; first | refine r_pure hT rfl rfl rfl rfl rfl rfl ?_ | refine r_load hT rfl rfl rfl rfl rfl rfl rfl rfl rfl ?_)))
                            refine r_thaw 163 rfl ?_
                            refine r_idx (row := y.row) hT rfl rfl rfl rfl rfl rfl rfl rfl rfl rfl rfl rfl (by omega) (by simp [hy]) ?_
                            (repeat ((refine r_op ?_; first | refine r_pure hT rfl rfl rfl rfl rfl rfl ?_ | refine r_load hT rfl rfl rfl rfl rfl rfl rfl rfl rfl ?_)))
                            refine r_case (d := 170) rfl (fun c170 => ?_) (fun c170 => ?_)
                            · (repeat (first | refine r_end ?_ | (refine r_op ?_; first | refine r_pure hT rfl rfl rfl rfl rfl rfl ?_ | refine r_off rfl rfl rfl rfl rfl ?_) | refine gi_seq ?_ | refine gi_plain ?_ | (refine gi_cnd ?_; first | refine gi_true rfl ?_ | refine gi_false rfl ?_)))
                              refine gi_retW hT Try.func42 rfl rfl [] rfl rfl rfl rfl ?_
                              exact ⟨⟨_, rfl⟩, rfl⟩
                            · (repeat ((refine r_op ?_; first | refine r_pure hT rfl rfl rfl rfl rfl rfl ?_ | refine r_load hT rfl rfl rfl rfl rfl rfl rfl rfl rfl ?_)))
                              refine r_thaw 172 rfl ?_
                              refine r_idx (row := y.row) hT rfl rfl rfl rfl rfl rfl rfl rfl rfl rfl rfl rfl (by omega) (by simp [hy]) ?_
                              (repeat ((refine r_op ?_; first | refine r_pure hT rfl rfl rfl rfl rfl rfl ?_ | refine r_load hT rfl rfl rfl rfl rfl rfl rfl rfl rfl ?_)))
                              refine r_call (RightI_ok _) rfl rfl rfl rfl rfl rfl rfl rfl Try.func59 rfl rfl rfl pRE ?_
                              rintro r S1 ⟨⟨b1, rfl⟩, rfl⟩
                              (repeat (first | refine r_end ?_ | (refine r_op ?_; refine r_pure hT rfl rfl rfl rfl rfl rfl ?_)))
                              refine gi_cond rfl (fun d1 => ?_) (fun d1 => ?_)
                              · (repeat (first | refine r_end ?_ | (refine r_op ?_; refine r_pure hT rfl rfl rfl rfl rfl rfl ?_) | refine gi_seq ?_ | refine gi_plain ?_))
                                refine gi_retW hT Try.func42 rfl rfl [] rfl rfl rfl rfl ?_
                                exact ⟨⟨_, rfl⟩, rfl⟩
                              · (repeat (first | refine r_end ?_ | (refine r_op ?_; refine r_pure hT rfl rfl rfl rfl rfl rfl ?_) | refine gi_plain ?_ | refine gi_skip ?_ | refine gi_inBlock ?_))
                                exact on _ _ _ ⟨rfl, rfl, trivial⟩ ⟨rfl, trivial⟩ trivial
                        · (repeat (first | refine r_end ?_ | (refine r_op ?_; refine r_pure hT rfl rfl rfl rfl rfl rfl ?_) | refine gi_seq ?_ | refine gi_plain ?_ | refine gi_exit rfl ?_))
                          refine gi_retW hT Try.func42 rfl rfl [] rfl rfl rfl rfl ?_
                          exact ⟨⟨_, rfl⟩, rfl⟩
end Go.Proofs.Ytmocggibcniggaa.Kt
