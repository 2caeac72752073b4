/- Part of the proofs of this seat's statements: what the functions compute. No condition. -/
import Derived.Test.YtmocggibcniggaaG3
import Derived.Test.YtmocggibcniggaaK4
import Derived.Test.YtmocggibcniggaaG5
set_option linter.unusedSimpArgs false
set_option linter.unusedVariables false
namespace Go.Proofs.Ytmocggibcniggaa.Kt
open Go Kw Go.Proofs
attribute [local irreducible] Kw.GI Kw.GR Kw.FnR Kw.FnX
set_option maxHeartbeats 8000000
set_option maxRecDepth 100000
/-! ### what a right list of advertisements is: its length, the lengths of its lists -/
abbrev RE : AV → Sp → Prop := fun r S => (∃ b, r = Bo b) ∧ S = []
theorem pRE : ∀ r S1, ((∃ b, r = Bo b) ∧ S1 = []) → plainA r = true ∧ PlainS S1 := by
  rintro r S ⟨⟨b, rfl⟩, rfl⟩
  exact ⟨rfl, PlainS.nil⟩
theorem RightI_ok (x : Int) : FnR Try.prog 59 [I x] RE := by
  refine fnR_intro (T := TT) (n := 9) Try.func59 rfl rfl rfl (fun w Z => ?_)
  (repeat (first | refine r_end ?_ | (refine r_op ?_; refine r_pure hT rfl rfl rfl rfl rfl rfl ?_) | refine gi_seq ?_ | refine gi_plain ?_))
  refine r_case (d := 5) rfl (fun c5 => ?_) (fun c5 => ?_)
  · (repeat (first | refine r_end ?_ | (refine r_op ?_; refine r_pure hT rfl rfl rfl rfl rfl rfl ?_)))
    refine gi_retW hT Try.func59 rfl rfl [] rfl rfl rfl rfl ?_
    exact ⟨⟨_, rfl⟩, rfl⟩
  · (repeat (first | refine r_end ?_ | (refine r_op ?_; first | refine r_pure hT rfl rfl rfl rfl rfl rfl ?_ | refine r_off rfl rfl rfl rfl rfl ?_)))
    refine gi_retW hT Try.func59 rfl rfl [] rfl rfl rfl rfl ?_
    exact ⟨⟨_, rfl⟩, rfl⟩
theorem KindI_ok (x : Int) : FnR Try.prog 93 [I x] RE := by
  refine fnR_intro (T := TT) (n := 13) Try.func93 rfl rfl rfl (fun w Z => ?_)
  (repeat (first | refine r_end ?_ | (refine r_op ?_; refine r_pure hT rfl rfl rfl rfl rfl rfl ?_) | refine gi_seq ?_ | refine gi_plain ?_))
  refine r_case (d := 5) rfl (fun c5 => ?_) (fun c5 => ?_)
  · (repeat (first | refine r_end ?_ | (refine r_op ?_; first | refine r_pure hT rfl rfl rfl rfl rfl rfl ?_ | refine r_off rfl rfl rfl rfl rfl ?_)))
    refine gi_retW hT Try.func93 rfl rfl [] rfl rfl rfl rfl ?_
    exact ⟨⟨_, rfl⟩, rfl⟩
  · (repeat ((refine r_op ?_; refine r_pure hT rfl rfl rfl rfl rfl rfl ?_)))
    refine r_case (d := 9) rfl (fun c9 => ?_) (fun c9 => ?_)
    · (repeat (first | refine r_end ?_ | (refine r_op ?_; first | refine r_pure hT rfl rfl rfl rfl rfl rfl ?_ | refine r_off rfl rfl rfl rfl rfl ?_)))
      refine gi_retW hT Try.func93 rfl rfl [] rfl rfl rfl rfl ?_
      exact ⟨⟨_, rfl⟩, rfl⟩
    · (repeat (first | refine r_end ?_ | (refine r_op ?_; refine r_pure hT rfl rfl rfl rfl rfl rfl ?_)))
      refine gi_retW hT Try.func93 rfl rfl [] rfl rfl rfl rfl ?_
      exact ⟨⟨_, rfl⟩, rfl⟩
abbrev Ls.hd (x : Ls) : AV := .agg [I x.age, I x.kind, I x.id, I x.adv, I x.seq, I x.sum, I x.len]
theorem headRight_ok (x : Ls) : FnR Try.prog 75 [x.hd] RE := by
  refine fnR_intro (T := TT) (n := 41) Try.func75 rfl rfl rfl (fun w Z => ?_)
  (repeat (first | refine r_end ?_ | (refine r_op ?_; first | refine r_pure hT rfl rfl rfl rfl rfl rfl ?_ | refine r_load hT rfl rfl rfl rfl rfl rfl rfl rfl rfl ?_ | refine r_box rfl rfl rfl rfl rfl rfl rfl rfl rfl ?_) | refine gi_seq ?_ | refine gi_plain ?_))
  refine r_call (KindI_ok _) rfl rfl rfl rfl rfl rfl rfl rfl Try.func93 rfl rfl rfl pRE ?_
  rintro r S1 ⟨⟨b0, rfl⟩, rfl⟩
  (repeat ((refine r_op ?_; refine r_pure hT rfl rfl rfl rfl rfl rfl ?_)))
  refine r_case (d := 6) rfl (fun c6 => ?_) (fun c6 => ?_)
  · (repeat ((refine r_op ?_; first | refine r_pure hT rfl rfl rfl rfl rfl rfl ?_ | refine r_load hT rfl rfl rfl rfl rfl rfl rfl rfl rfl ?_)))
    refine r_case (d := 11) rfl (fun c11 => ?_) (fun c11 => ?_)
    · (repeat ((refine r_op ?_; first | refine r_pure hT rfl rfl rfl rfl rfl rfl ?_ | refine r_load hT rfl rfl rfl rfl rfl rfl rfl rfl rfl ?_)))
      refine r_case (d := 16) rfl (fun c16 => ?_) (fun c16 => ?_)
      · (repeat ((refine r_op ?_; first | refine r_pure hT rfl rfl rfl rfl rfl rfl ?_ | refine r_load hT rfl rfl rfl rfl rfl rfl rfl rfl rfl ?_)))
        refine r_call (RightI_ok _) rfl rfl rfl rfl rfl rfl rfl rfl Try.func59 rfl rfl rfl pRE ?_
        rintro r S1 ⟨⟨b4, rfl⟩, rfl⟩
        (repeat ((refine r_op ?_; refine r_pure hT rfl rfl rfl rfl rfl rfl ?_)))
        refine r_case (d := 21) rfl (fun c21 => ?_) (fun c21 => ?_)
        · (repeat ((refine r_op ?_; first | refine r_pure hT rfl rfl rfl rfl rfl rfl ?_ | refine r_load hT rfl rfl rfl rfl rfl rfl rfl rfl rfl ?_)))
          refine r_call (RightI_ok _) rfl rfl rfl rfl rfl rfl rfl rfl Try.func59 rfl rfl rfl pRE ?_
          rintro r S1 ⟨⟨b6, rfl⟩, rfl⟩
          (repeat ((refine r_op ?_; refine r_pure hT rfl rfl rfl rfl rfl rfl ?_)))
          refine r_case (d := 26) rfl (fun c26 => ?_) (fun c26 => ?_)
          · (repeat ((refine r_op ?_; first | refine r_pure hT rfl rfl rfl rfl rfl rfl ?_ | refine r_load hT rfl rfl rfl rfl rfl rfl rfl rfl rfl ?_)))
            refine r_case (d := 31) rfl (fun c31 => ?_) (fun c31 => ?_)
            · (repeat ((refine r_op ?_; first | refine r_pure hT rfl rfl rfl rfl rfl rfl ?_ | refine r_load hT rfl rfl rfl rfl rfl rfl rfl rfl rfl ?_)))
              refine r_case (d := 36) rfl (fun c36 => ?_) (fun c36 => ?_)
              · (repeat (first | refine r_end ?_ | (refine r_op ?_; first | refine r_pure hT rfl rfl rfl rfl rfl rfl ?_ | refine r_load hT rfl rfl rfl rfl rfl rfl rfl rfl rfl ?_)))
                refine gi_retW hT Try.func75 rfl rfl [] rfl rfl rfl rfl ?_
                exact ⟨⟨_, rfl⟩, rfl⟩
              · (repeat (first | refine r_end ?_ | (refine r_op ?_; first | refine r_pure hT rfl rfl rfl rfl rfl rfl ?_ | refine r_off rfl rfl rfl rfl rfl ?_)))
                refine gi_retW hT Try.func75 rfl rfl [] rfl rfl rfl rfl ?_
                exact ⟨⟨_, rfl⟩, rfl⟩
            · (repeat (first | refine r_end ?_ | (refine r_op ?_; first | refine r_pure hT rfl rfl rfl rfl rfl rfl ?_ | refine r_off rfl rfl rfl rfl rfl ?_)))
              refine gi_retW hT Try.func75 rfl rfl [] rfl rfl rfl rfl ?_
              exact ⟨⟨_, rfl⟩, rfl⟩
          · (repeat (first | refine r_end ?_ | (refine r_op ?_; first | refine r_pure hT rfl rfl rfl rfl rfl rfl ?_ | refine r_off rfl rfl rfl rfl rfl ?_)))
            refine gi_retW hT Try.func75 rfl rfl [] rfl rfl rfl rfl ?_
            exact ⟨⟨_, rfl⟩, rfl⟩
        · (repeat (first | refine r_end ?_ | (refine r_op ?_; first | refine r_pure hT rfl rfl rfl rfl rfl rfl ?_ | refine r_off rfl rfl rfl rfl rfl ?_)))
          refine gi_retW hT Try.func75 rfl rfl [] rfl rfl rfl rfl ?_
          exact ⟨⟨_, rfl⟩, rfl⟩
      · (repeat (first | refine r_end ?_ | (refine r_op ?_; first | refine r_pure hT rfl rfl rfl rfl rfl rfl ?_ | refine r_off rfl rfl rfl rfl rfl ?_)))
        refine gi_retW hT Try.func75 rfl rfl [] rfl rfl rfl rfl ?_
        exact ⟨⟨_, rfl⟩, rfl⟩
    · (repeat (first | refine r_end ?_ | (refine r_op ?_; first | refine r_pure hT rfl rfl rfl rfl rfl rfl ?_ | refine r_off rfl rfl rfl rfl rfl ?_)))
      refine gi_retW hT Try.func75 rfl rfl [] rfl rfl rfl rfl ?_
      exact ⟨⟨_, rfl⟩, rfl⟩
  · (repeat (first | refine r_end ?_ | (refine r_op ?_; first | refine r_pure hT rfl rfl rfl rfl rfl rfl ?_ | refine r_off rfl rfl rfl rfl rfl ?_)))
    refine gi_retW hT Try.func75 rfl rfl [] rfl rfl rfl rfl ?_
    exact ⟨⟨_, rfl⟩, rfl⟩
theorem Great_ok (x : Ls) : FnR Try.prog 41 [x.av] (fun r S => (∃ b, r = Bo b ∧ (b = false → x.lk.length ≤ 70 ∧ x.rt.length ≤ 70 ∧ x.vt.length ≤ 70)) ∧ S = []) := by
  refine fnR_intro (T := TT) (n := 19) Try.func41 rfl rfl rfl (fun w Z => ?_)
  (repeat (first | refine r_end ?_ | (refine r_op ?_; first | refine r_pure hT rfl rfl rfl rfl rfl rfl ?_ | refine r_load hT rfl rfl rfl rfl rfl rfl rfl rfl rfl ?_ | refine r_box rfl rfl rfl rfl rfl rfl rfl rfl rfl ?_) | refine gi_seq ?_ | refine gi_plain ?_))
  refine r_case (d := 7) rfl (fun c1 => ?_) (fun c1 => ?_)
  · (repeat (first | refine r_end ?_ | (refine r_op ?_; first | refine r_pure hT rfl rfl rfl rfl rfl rfl ?_ | refine r_off rfl rfl rfl rfl rfl ?_)))
    refine gi_retW hT Try.func41 rfl rfl [] rfl rfl rfl rfl ?_
    exact ⟨⟨_, rfl, fun h => by cases h⟩, rfl⟩
  · rw [ltB_eq] at c1
    have c1 := of_decide_eq_false c1
    rw [List.length_map] at c1
    (repeat ((refine r_op ?_; first | refine r_pure hT rfl rfl rfl rfl rfl rfl ?_ | refine r_load hT rfl rfl rfl rfl rfl rfl rfl rfl rfl ?_)))
    refine r_case (d := 13) rfl (fun c2 => ?_) (fun c2 => ?_)
    · (repeat (first | refine r_end ?_ | (refine r_op ?_; first | refine r_pure hT rfl rfl rfl rfl rfl rfl ?_ | refine r_off rfl rfl rfl rfl rfl ?_)))
      refine gi_retW hT Try.func41 rfl rfl [] rfl rfl rfl rfl ?_
      exact ⟨⟨_, rfl, fun h => by cases h⟩, rfl⟩
    · rw [ltB_eq] at c2
      have c2 := of_decide_eq_false c2
      rw [List.length_map] at c2
      (repeat (first | refine r_end ?_ | (refine r_op ?_; first | refine r_pure hT rfl rfl rfl rfl rfl rfl ?_ | refine r_load hT rfl rfl rfl rfl rfl rfl rfl rfl rfl ?_)))
      refine gi_retW hT Try.func41 rfl rfl [] rfl rfl rfl rfl ?_
      exact ⟨⟨_, rfl, fun h => by rw [ltB_eq] at h; have h := of_decide_eq_false h; rw [List.length_map] at h; exact ⟨by omega, by omega, by omega⟩⟩, rfl⟩
theorem pGr {x : Ls} : ∀ r S1, ((∃ b, r = Bo b ∧ (b = false → x.lk.length ≤ 70 ∧ x.rt.length ≤ 70 ∧ x.vt.length ≤ 70)) ∧ S1 = []) → plainA r = true ∧ PlainS S1 := by
  rintro r S ⟨⟨b, rfl, _⟩, rfl⟩
  exact ⟨rfl, PlainS.nil⟩
theorem KeyOf_ok (x : Ls) : FnR Try.prog 43 [x.hd] (fun r S => r = .agg [I x.kind, I x.id, I x.adv] ∧ S = []) := by
  refine fnR_intro (T := TT) (n := 10) Try.func43 rfl rfl rfl (fun w Z => ?_)
  (repeat (first | refine r_end ?_ | (refine r_op ?_; first | refine r_pure hT rfl rfl rfl rfl rfl rfl ?_ | refine r_load hT rfl rfl rfl rfl rfl rfl rfl rfl rfl ?_ | refine r_box rfl rfl rfl rfl rfl rfl rfl rfl rfl ?_ | refine r_store hT rfl rfl rfl rfl rfl rfl rfl rfl rfl rfl ?_ | refine r_alloc hT rfl rfl rfl rfl rfl rfl rfl rfl rfl ?_) | refine gi_seq ?_ | refine gi_plain ?_))
  refine gi_retW hT Try.func43 rfl rfl [] rfl rfl rfl rfl ?_
  exact ⟨rfl, rfl⟩
theorem RightLsa_ok (x : Ls) (h1 : x.lk.length < 1000000) (h2 : x.rt.length < 1000000) (h3 : x.vt.length < 1000000) : FnR Try.prog 42 [x.av] RE := by
  refine fnR_intro (T := TT) (n := 180) Try.func42 rfl rfl rfl (fun w Z => ?_)
  (repeat (first | refine r_end ?_ | (refine r_op ?_; first | refine r_pure hT rfl rfl rfl rfl rfl rfl ?_ | refine r_load hT rfl rfl rfl rfl rfl rfl rfl rfl rfl ?_ | refine r_box rfl rfl rfl rfl rfl rfl rfl rfl rfl ?_) | refine gi_seq ?_ | refine gi_plain ?_))
  refine r_call (headRight_ok x) rfl rfl rfl rfl rfl rfl rfl rfl Try.func75 rfl rfl rfl pRE ?_
  rintro r S1 ⟨⟨b0, rfl⟩, rfl⟩
  (repeat ((refine r_op ?_; refine r_pure hT rfl rfl rfl rfl rfl rfl ?_)))
  refine r_case (d := 12) rfl (fun c12 => ?_) (fun c12 => ?_)
  · (repeat (first | refine r_end ?_ | (refine r_op ?_; first | refine r_pure hT rfl rfl rfl rfl rfl rfl ?_ | refine r_off rfl rfl rfl rfl rfl ?_) | refine gi_seq ?_ | refine gi_plain ?_ | (refine gi_cnd ?_; first | refine gi_true rfl ?_ | refine gi_false rfl ?_)))
    refine gi_retW hT Try.func42 rfl rfl [] rfl rfl rfl rfl ?_
    exact ⟨⟨_, rfl⟩, rfl⟩
  · (repeat ((refine r_op ?_; first | refine r_pure hT rfl rfl rfl rfl rfl rfl ?_ | refine r_load hT rfl rfl rfl rfl rfl rfl rfl rfl rfl ?_)))
    refine r_case (d := 17) rfl (fun c17 => ?_) (fun c17 => ?_)
    · (repeat (first | refine r_end ?_ | (refine r_op ?_; first | refine r_pure hT rfl rfl rfl rfl rfl rfl ?_ | refine r_off rfl rfl rfl rfl rfl ?_) | refine gi_seq ?_ | refine gi_plain ?_ | (refine gi_cnd ?_; first | refine gi_true rfl ?_ | refine gi_false rfl ?_)))
      refine gi_retW hT Try.func42 rfl rfl [] rfl rfl rfl rfl ?_
      exact ⟨⟨_, rfl⟩, rfl⟩
    · (repeat ((refine r_op ?_; first | refine r_pure hT rfl rfl rfl rfl rfl rfl ?_ | refine r_load hT rfl rfl rfl rfl rfl rfl rfl rfl rfl ?_)))
      refine r_case (d := 22) rfl (fun c22 => ?_) (fun c22 => ?_)
      · (repeat (first | refine r_end ?_ | (refine r_op ?_; first | refine r_pure hT rfl rfl rfl rfl rfl rfl ?_ | refine r_off rfl rfl rfl rfl rfl ?_) | refine gi_seq ?_ | refine gi_plain ?_ | (refine gi_cnd ?_; first | refine gi_true rfl ?_ | refine gi_false rfl ?_)))
        refine gi_retW hT Try.func42 rfl rfl [] rfl rfl rfl rfl ?_
        exact ⟨⟨_, rfl⟩, rfl⟩
      · (repeat ((refine r_op ?_; first | refine r_pure hT rfl rfl rfl rfl rfl rfl ?_ | refine r_load hT rfl rfl rfl rfl rfl rfl rfl rfl rfl ?_)))
        refine r_case (d := 28) rfl (fun c28 => ?_) (fun c28 => ?_)
        · (repeat (first | refine r_end ?_ | (refine r_op ?_; first | refine r_pure hT rfl rfl rfl rfl rfl rfl ?_ | refine r_off rfl rfl rfl rfl rfl ?_) | refine gi_seq ?_ | refine gi_plain ?_ | (refine gi_cnd ?_; first | refine gi_true rfl ?_ | refine gi_false rfl ?_)))
          refine gi_retW hT Try.func42 rfl rfl [] rfl rfl rfl rfl ?_
          exact ⟨⟨_, rfl⟩, rfl⟩
        · (repeat ((refine r_op ?_; first | refine r_pure hT rfl rfl rfl rfl rfl rfl ?_ | refine r_load hT rfl rfl rfl rfl rfl rfl rfl rfl rfl ?_)))
          refine r_case (d := 33) rfl (fun c33 => ?_) (fun c33 => ?_)
          · (repeat (first | refine r_end ?_ | (refine r_op ?_; first | refine r_pure hT rfl rfl rfl rfl rfl rfl ?_ | refine r_off rfl rfl rfl rfl rfl ?_) | refine gi_seq ?_ | refine gi_plain ?_ | (refine gi_cnd ?_; first | refine gi_true rfl ?_ | refine gi_false rfl ?_)))
            refine gi_retW hT Try.func42 rfl rfl [] rfl rfl rfl rfl ?_
            exact ⟨⟨_, rfl⟩, rfl⟩
          · (repeat ((refine r_op ?_; first | refine r_pure hT rfl rfl rfl rfl rfl rfl ?_ | refine r_load hT rfl rfl rfl rfl rfl rfl rfl rfl rfl ?_)))
            refine r_case (d := 38) rfl (fun c38 => ?_) (fun c38 => ?_)
            · (repeat (first | refine r_end ?_ | (refine r_op ?_; first | refine r_pure hT rfl rfl rfl rfl rfl rfl ?_ | refine r_off rfl rfl rfl rfl rfl ?_) | refine gi_seq ?_ | refine gi_plain ?_ | (refine gi_cnd ?_; first | refine gi_true rfl ?_ | refine gi_false rfl ?_)))
              refine gi_retW hT Try.func42 rfl rfl [] rfl rfl rfl rfl ?_
              exact ⟨⟨_, rfl⟩, rfl⟩
            · (repeat ((refine r_op ?_; first | refine r_pure hT rfl rfl rfl rfl rfl rfl ?_ | refine r_load hT rfl rfl rfl rfl rfl rfl rfl rfl rfl ?_)))
              refine r_case (d := 44) rfl (fun c44 => ?_) (fun c44 => ?_)
              · (repeat (first | refine r_end ?_ | (refine r_op ?_; first | refine r_pure hT rfl rfl rfl rfl rfl rfl ?_ | refine r_off rfl rfl rfl rfl rfl ?_) | refine gi_seq ?_ | refine gi_plain ?_ | (refine gi_cnd ?_; first | refine gi_true rfl ?_ | refine gi_false rfl ?_)))
                refine gi_retW hT Try.func42 rfl rfl [] rfl rfl rfl rfl ?_
                exact ⟨⟨_, rfl⟩, rfl⟩
              · (repeat (first | refine r_end ?_ | (refine r_op ?_; first | refine r_pure hT rfl rfl rfl rfl rfl rfl ?_ | refine r_load hT rfl rfl rfl rfl rfl rfl rfl rfl rfl ?_)))
                refine gi_cond rfl (fun d1 => ?_) (fun d1 => ?_)
                · (repeat (first | refine r_end ?_ | (refine r_op ?_; refine r_pure hT rfl rfl rfl rfl rfl rfl ?_) | refine gi_seq ?_ | refine gi_plain ?_))
                  refine gi_retW hT Try.func42 rfl rfl [] rfl rfl rfl rfl ?_
                  exact ⟨⟨_, rfl⟩, rfl⟩
                · (repeat (first | refine r_end ?_ | (refine r_op ?_; first | refine r_pure hT rfl rfl rfl rfl rfl rfl ?_ | refine r_load hT rfl rfl rfl rfl rfl rfl rfl rfl rfl ?_) | refine gi_seq ?_ | refine gi_plain_ne 4 rfl ?_ | refine gi_skip ?_))
                  apply gi_cut (σ := Unit) (fun _ => [(1, .box 0 0)]) (fun _ => [hLs x]) (fun _ => []) (fun _ => True) (fun _ => rfl)
                  case first =>
                    intro fin
                    (repeat (first | (refine r_op ?_; refine r_pure hT rfl rfl rfl rfl rfl rfl ?_) | refine gi_plain ?_))
                    refine r_case (d := 55) rfl (fun c55 => ?_) (fun c55 => ?_)
                    · (repeat ((refine r_op ?_; first | refine r_pure hT rfl rfl rfl rfl rfl rfl ?_ | refine r_load hT rfl rfl rfl rfl rfl rfl rfl rfl rfl ?_)))
                      refine r_case (d := 59) rfl (fun c59 => ?_) (fun c59 => ?_)
                      · (repeat (first | refine r_end ?_ | (refine r_op ?_; first | refine r_pure hT rfl rfl rfl rfl rfl rfl ?_ | refine r_off rfl rfl rfl rfl rfl ?_) | refine gi_seq ?_ | refine gi_plain ?_ | (refine gi_cnd ?_; first | refine gi_true rfl ?_ | refine gi_false rfl ?_)))
                        refine gi_retW hT Try.func42 rfl rfl [] rfl rfl rfl rfl ?_
                        exact ⟨⟨_, rfl⟩, rfl⟩
                      · (repeat ((refine r_op ?_; first | refine r_pure hT rfl rfl rfl rfl rfl rfl ?_ | refine r_load hT rfl rfl rfl rfl rfl rfl rfl rfl rfl ?_)))
                        refine r_case (d := 66) rfl (fun c66 => ?_) (fun c66 => ?_)
                        · (repeat (first | refine r_end ?_ | (refine r_op ?_; first | refine r_pure hT rfl rfl rfl rfl rfl rfl ?_ | refine r_off rfl rfl rfl rfl rfl ?_) | refine gi_seq ?_ | refine gi_plain ?_ | (refine gi_cnd ?_; first | refine gi_true rfl ?_ | refine gi_false rfl ?_)))
                          refine gi_retW hT Try.func42 rfl rfl [] rfl rfl rfl rfl ?_
                          exact ⟨⟨_, rfl⟩, rfl⟩
                        · (repeat ((refine r_op ?_; refine r_pure hT rfl rfl rfl rfl rfl rfl ?_)))
                          refine r_case (d := 69) rfl (fun c69 => ?_) (fun c69 => ?_)
                          · (repeat ((refine r_op ?_; first | refine r_pure hT rfl rfl rfl rfl rfl rfl ?_ | refine r_load hT rfl rfl rfl rfl rfl rfl rfl rfl rfl ?_)))
                            refine r_case (d := 73) rfl (fun c73 => ?_) (fun c73 => ?_)
                            · (repeat (first | refine r_end ?_ | (refine r_op ?_; first | refine r_pure hT rfl rfl rfl rfl rfl rfl ?_ | refine r_off rfl rfl rfl rfl rfl ?_) | refine gi_seq ?_ | refine gi_plain ?_ | (refine gi_cnd ?_; first | refine gi_true rfl ?_ | refine gi_false rfl ?_)))
                              refine gi_retW hT Try.func42 rfl rfl [] rfl rfl rfl rfl ?_
                              exact ⟨⟨_, rfl⟩, rfl⟩
                            · (repeat ((refine r_op ?_; first | refine r_pure hT rfl rfl rfl rfl rfl rfl ?_ | refine r_load hT rfl rfl rfl rfl rfl rfl rfl rfl rfl ?_)))
                              refine r_case (d := 81) rfl (fun c81 => ?_) (fun c81 => ?_)
                              · (repeat (first | refine r_end ?_ | (refine r_op ?_; first | refine r_pure hT rfl rfl rfl rfl rfl rfl ?_ | refine r_off rfl rfl rfl rfl rfl ?_) | refine gi_seq ?_ | refine gi_plain ?_ | (refine gi_cnd ?_; first | refine gi_true rfl ?_ | refine gi_false rfl ?_)))
                                refine gi_retW hT Try.func42 rfl rfl [] rfl rfl rfl rfl ?_
                                exact ⟨⟨_, rfl⟩, rfl⟩
                              · (repeat ((refine r_op ?_; refine r_pure hT rfl rfl rfl rfl rfl rfl ?_)))
                                refine r_case (d := 84) rfl (fun c84 => ?_) (fun c84 => ?_)
                                · (repeat (first | refine r_end ?_ | (refine r_op ?_; first | refine r_pure hT rfl rfl rfl rfl rfl rfl ?_ | refine r_load hT rfl rfl rfl rfl rfl rfl rfl rfl rfl ?_)))
                                  refine gi_cond rfl (fun d1 => ?_) (fun d1 => ?_)
                                  · (repeat (first | refine r_end ?_ | (refine r_op ?_; refine r_pure hT rfl rfl rfl rfl rfl rfl ?_) | refine gi_seq ?_ | refine gi_plain ?_))
                                    refine gi_retW hT Try.func42 rfl rfl [] rfl rfl rfl rfl ?_
                                    exact ⟨⟨_, rfl⟩, rfl⟩
                                  · (repeat (first | refine gi_seq ?_ | refine gi_skip ?_))
                                    exact fin () _ _ _ trivial ⟨rfl, trivial⟩ ⟨rfl, trivial⟩ trivial
                                · (repeat (first | refine r_end ?_ | (refine r_op ?_; first | refine r_pure hT rfl rfl rfl rfl rfl rfl ?_ | refine r_off rfl rfl rfl rfl rfl ?_) | refine gi_seq ?_ | refine gi_skip ?_ | (refine gi_cnd ?_; first | refine gi_true rfl ?_ | refine gi_false rfl ?_)))
                                  exact fin () _ _ _ trivial ⟨rfl, trivial⟩ ⟨rfl, trivial⟩ trivial
                          · (repeat ((refine r_op ?_; first | refine r_pure hT rfl rfl rfl rfl rfl rfl ?_ | refine r_off rfl rfl rfl rfl rfl ?_)))
                            refine r_case (d := 84) rfl (fun c84 => ?_) (fun c84 => ?_)
                            · (repeat (first | refine r_end ?_ | (refine r_op ?_; first | refine r_pure hT rfl rfl rfl rfl rfl rfl ?_ | refine r_load hT rfl rfl rfl rfl rfl rfl rfl rfl rfl ?_)))
                              refine gi_cond rfl (fun d1 => ?_) (fun d1 => ?_)
                              · (repeat (first | refine r_end ?_ | (refine r_op ?_; refine r_pure hT rfl rfl rfl rfl rfl rfl ?_) | refine gi_seq ?_ | refine gi_plain ?_))
                                refine gi_retW hT Try.func42 rfl rfl [] rfl rfl rfl rfl ?_
                                exact ⟨⟨_, rfl⟩, rfl⟩
                              · (repeat (first | refine gi_seq ?_ | refine gi_skip ?_))
                                exact fin () _ _ _ trivial ⟨rfl, trivial⟩ ⟨rfl, trivial⟩ trivial
                            · (repeat (first | refine r_end ?_ | (refine r_op ?_; first | refine r_pure hT rfl rfl rfl rfl rfl rfl ?_ | refine r_off rfl rfl rfl rfl rfl ?_) | refine gi_seq ?_ | refine gi_skip ?_ | (refine gi_cnd ?_; first | refine gi_true rfl ?_ | refine gi_false rfl ?_)))
                              exact fin () _ _ _ trivial ⟨rfl, trivial⟩ ⟨rfl, trivial⟩ trivial
                    · (repeat ((refine r_op ?_; first | refine r_pure hT rfl rfl rfl rfl rfl rfl ?_ | refine r_off rfl rfl rfl rfl rfl ?_)))
                      refine r_case (d := 69) rfl (fun c69 => ?_) (fun c69 => ?_)
                      · (repeat ((refine r_op ?_; first | refine r_pure hT rfl rfl rfl rfl rfl rfl ?_ | refine r_load hT rfl rfl rfl rfl rfl rfl rfl rfl rfl ?_)))
                        refine r_case (d := 73) rfl (fun c73 => ?_) (fun c73 => ?_)
                        · (repeat (first | refine r_end ?_ | (refine r_op ?_; first | refine r_pure hT rfl rfl rfl rfl rfl rfl ?_ | refine r_off rfl rfl rfl rfl rfl ?_) | refine gi_seq ?_ | refine gi_plain ?_ | (refine gi_cnd ?_; first | refine gi_true rfl ?_ | refine gi_false rfl ?_)))
                          refine gi_retW hT Try.func42 rfl rfl [] rfl rfl rfl rfl ?_
                          exact ⟨⟨_, rfl⟩, rfl⟩
                        · (repeat ((refine r_op ?_; first | refine r_pure hT rfl rfl rfl rfl rfl rfl ?_ | refine r_load hT rfl rfl rfl rfl rfl rfl rfl rfl rfl ?_)))
                          refine r_case (d := 81) rfl (fun c81 => ?_) (fun c81 => ?_)
                          · (repeat (first | refine r_end ?_ | (refine r_op ?_; first | refine r_pure hT rfl rfl rfl rfl rfl rfl ?_ | refine r_off rfl rfl rfl rfl rfl ?_) | refine gi_seq ?_ | refine gi_plain ?_ | (refine gi_cnd ?_; first | refine gi_true rfl ?_ | refine gi_false rfl ?_)))
                            refine gi_retW hT Try.func42 rfl rfl [] rfl rfl rfl rfl ?_
                            exact ⟨⟨_, rfl⟩, rfl⟩
                          · (repeat ((refine r_op ?_; refine r_pure hT rfl rfl rfl rfl rfl rfl ?_)))
                            refine r_case (d := 84) rfl (fun c84 => ?_) (fun c84 => ?_)
                            · (repeat (first | refine r_end ?_ | (refine r_op ?_; first | refine r_pure hT rfl rfl rfl rfl rfl rfl ?_ | refine r_load hT rfl rfl rfl rfl rfl rfl rfl rfl rfl ?_)))
                              refine gi_cond rfl (fun d1 => ?_) (fun d1 => ?_)
                              · (repeat (first | refine r_end ?_ | (refine r_op ?_; refine r_pure hT rfl rfl rfl rfl rfl rfl ?_) | refine gi_seq ?_ | refine gi_plain ?_))
                                refine gi_retW hT Try.func42 rfl rfl [] rfl rfl rfl rfl ?_
                                exact ⟨⟨_, rfl⟩, rfl⟩
                              · (repeat (first | refine gi_seq ?_ | refine gi_skip ?_))
                                exact fin () _ _ _ trivial ⟨rfl, trivial⟩ ⟨rfl, trivial⟩ trivial
                            · (repeat (first | refine r_end ?_ | (refine r_op ?_; first | refine r_pure hT rfl rfl rfl rfl rfl rfl ?_ | refine r_off rfl rfl rfl rfl rfl ?_) | refine gi_seq ?_ | refine gi_skip ?_ | (refine gi_cnd ?_; first | refine gi_true rfl ?_ | refine gi_false rfl ?_)))
                              exact fin () _ _ _ trivial ⟨rfl, trivial⟩ ⟨rfl, trivial⟩ trivial
                      · (repeat ((refine r_op ?_; first | refine r_pure hT rfl rfl rfl rfl rfl rfl ?_ | refine r_off rfl rfl rfl rfl rfl ?_)))
                        refine r_case (d := 84) rfl (fun c84 => ?_) (fun c84 => ?_)
                        · (repeat (first | refine r_end ?_ | (refine r_op ?_; first | refine r_pure hT rfl rfl rfl rfl rfl rfl ?_ | refine r_load hT rfl rfl rfl rfl rfl rfl rfl rfl rfl ?_)))
                          refine gi_cond rfl (fun d1 => ?_) (fun d1 => ?_)
                          · (repeat (first | refine r_end ?_ | (refine r_op ?_; refine r_pure hT rfl rfl rfl rfl rfl rfl ?_) | refine gi_seq ?_ | refine gi_plain ?_))
                            refine gi_retW hT Try.func42 rfl rfl [] rfl rfl rfl rfl ?_
                            exact ⟨⟨_, rfl⟩, rfl⟩
                          · (repeat (first | refine gi_seq ?_ | refine gi_skip ?_))
                            exact fin () _ _ _ trivial ⟨rfl, trivial⟩ ⟨rfl, trivial⟩ trivial
                        · (repeat (first | refine r_end ?_ | (refine r_op ?_; first | refine r_pure hT rfl rfl rfl rfl rfl rfl ?_ | refine r_off rfl rfl rfl rfl rfl ?_) | refine gi_seq ?_ | refine gi_skip ?_ | (refine gi_cnd ?_; first | refine gi_true rfl ?_ | refine gi_false rfl ?_)))
                          exact fin () _ _ _ trivial ⟨rfl, trivial⟩ ⟨rfl, trivial⟩ trivial
                  case after =>
                    intro _ _
                    (repeat (first | refine r_end ?_ | (refine r_op ?_; refine r_pure hT rfl rfl rfl rfl rfl rfl ?_) | refine gi_plain ?_ | refine gi_block ?_))
                    refine gi_loop (σ := Nat) (fun j => [(4, I j), (1, .box 0 0)]) (fun _ => [hLs x]) (fun _ => []) (fun j => j ≤ x.lk.length) (fun j => x.lk.length - j) 0 (Nat.zero_le _) ⟨rfl, rfl, trivial⟩ ⟨rfl, trivial⟩ trivial (fun _ => rfl) (fun j hj next => ?_)
                    have hj : j ≤ x.lk.length := hj
                    (repeat (first | refine r_end ?_ | (refine r_op ?_; first | refine r_pure hT rfl rfl rfl rfl rfl rfl ?_ | refine r_load hT rfl rfl rfl rfl rfl rfl rfl rfl rfl ?_) | refine gi_seq ?_ | refine gi_plain ?_))
                    refine gi_lt (q := ((x.lk.map Lk.row).length : Int)) rfl (fun h3 => ?_) (fun h3 => ?_)
                    · rw [List.length_map] at h3
                      have hjl : j < x.lk.length := by omega
                      obtain ⟨y, hy⟩ : ∃ y, x.lk[j]? = some y := ⟨_, List.getElem?_eq_getElem hjl⟩
                      have on : ∀ F1 H1 S1, SubF [(4, I (wr .i64 ((j : Int) + 1))), (1, .box 0 0)] F1 → SubH [hLs x] H1 → SubS [] S1 → GI _ _ F1 H1 S1 := fun F1 H1 S1 hF hH hS => by
                        refine next (j + 1) F1 H1 S1 hjl (by omega) ?_ hH hS
                        rw [wr_i64 (by omega) (by omega)] at hF
                        simpa using hF
                      (repeat (first | (refine r_op ?_; first | refine r_pure hT rfl rfl rfl rfl rfl rfl ?_ | refine r_load hT rfl rfl rfl rfl rfl rfl rfl rfl rfl ?_) | refine gi_seq ?_ | refine gi_plain ?_ | refine gi_skip ?_ | refine gi_block ?_))
                      refine r_thaw 99 rfl ?_
                      refine r_idx (row := y.row) hT rfl rfl rfl rfl rfl rfl rfl rfl rfl rfl rfl rfl (by omega) (by simp [hy]) ?_
                      (repeat (first | refine r_end ?_ | (refine r_op ?_; first | refine r_pure hT rfl rfl rfl rfl rfl rfl ?_ | refine r_load hT rfl rfl rfl rfl rfl rfl rfl rfl rfl ?_ | refine r_store hT rfl rfl rfl rfl rfl rfl rfl rfl rfl rfl ?_ | refine r_alloc hT rfl rfl rfl rfl rfl rfl rfl rfl rfl ?_) | refine gi_seq ?_ | refine gi_plain ?_))
                      refine r_case (d := 106) rfl (fun c106 => ?_) (fun c106 => ?_)
                      · (repeat (first | refine r_end ?_ | (refine r_op ?_; first | refine r_pure hT rfl rfl rfl rfl rfl rfl ?_ | refine r_off rfl rfl rfl rfl rfl ?_) | refine gi_seq ?_ | refine gi_plain ?_ | (refine gi_cnd ?_; first | refine gi_true rfl ?_ | refine gi_false rfl ?_)))
                        refine gi_retW hT Try.func42 rfl rfl [] rfl rfl rfl rfl ?_
                        exact ⟨⟨_, rfl⟩, rfl⟩
                      · (repeat ((refine r_op ?_; first | refine r_pure hT rfl rfl rfl rfl rfl rfl ?_ | refine r_load hT rfl rfl rfl rfl rfl rfl rfl rfl rfl ?_)))
                        refine r_case (d := 111) rfl (fun c111 => ?_) (fun c111 => ?_)
                        · (repeat (first | refine r_end ?_ | (refine r_op ?_; first | refine r_pure hT rfl rfl rfl rfl rfl rfl ?_ | refine r_off rfl rfl rfl rfl rfl ?_) | refine gi_seq ?_ | refine gi_plain ?_ | (refine gi_cnd ?_; first | refine gi_true rfl ?_ | refine gi_false rfl ?_)))
                          refine gi_retW hT Try.func42 rfl rfl [] rfl rfl rfl rfl ?_
                          exact ⟨⟨_, rfl⟩, rfl⟩
                        · (repeat ((refine r_op ?_; first | refine r_pure hT rfl rfl rfl rfl rfl rfl ?_ | refine r_load hT rfl rfl rfl rfl rfl rfl rfl rfl rfl ?_)))
                          refine r_call (RightI_ok _) rfl rfl rfl rfl rfl rfl rfl rfl Try.func59 rfl rfl rfl pRE ?_
                          rintro r S1 ⟨⟨b1, rfl⟩, rfl⟩
                          (repeat ((refine r_op ?_; refine r_pure hT rfl rfl rfl rfl rfl rfl ?_)))
                          refine r_case (d := 117) rfl (fun c117 => ?_) (fun c117 => ?_)
                          · (repeat (first | refine r_end ?_ | (refine r_op ?_; first | refine r_pure hT rfl rfl rfl rfl rfl rfl ?_ | refine r_off rfl rfl rfl rfl rfl ?_) | refine gi_seq ?_ | refine gi_plain ?_ | (refine gi_cnd ?_; first | refine gi_true rfl ?_ | refine gi_false rfl ?_)))
                            refine gi_retW hT Try.func42 rfl rfl [] rfl rfl rfl rfl ?_
                            exact ⟨⟨_, rfl⟩, rfl⟩
                          · (repeat ((refine r_op ?_; first | refine r_pure hT rfl rfl rfl rfl rfl rfl ?_ | refine r_load hT rfl rfl rfl rfl rfl rfl rfl rfl rfl ?_)))
                            refine r_call (RightI_ok _) rfl rfl rfl rfl rfl rfl rfl rfl Try.func59 rfl rfl rfl pRE ?_
                            rintro r S1 ⟨⟨b1, rfl⟩, rfl⟩
                            (repeat ((refine r_op ?_; refine r_pure hT rfl rfl rfl rfl rfl rfl ?_)))
                            refine r_case (d := 123) rfl (fun c123 => ?_) (fun c123 => ?_)
                            · (repeat (first | refine r_end ?_ | (refine r_op ?_; first | refine r_pure hT rfl rfl rfl rfl rfl rfl ?_ | refine r_off rfl rfl rfl rfl rfl ?_) | refine gi_seq ?_ | refine gi_plain ?_ | (refine gi_cnd ?_; first | refine gi_true rfl ?_ | refine gi_false rfl ?_)))
                              refine gi_retW hT Try.func42 rfl rfl [] rfl rfl rfl rfl ?_
                              exact ⟨⟨_, rfl⟩, rfl⟩
                            · (repeat ((refine r_op ?_; first | refine r_pure hT rfl rfl rfl rfl rfl rfl ?_ | refine r_load hT rfl rfl rfl rfl rfl rfl rfl rfl rfl ?_)))
                              refine r_case (d := 128) rfl (fun c128 => ?_) (fun c128 => ?_)
                              · (repeat (first | refine r_end ?_ | (refine r_op ?_; first | refine r_pure hT rfl rfl rfl rfl rfl rfl ?_ | refine r_off rfl rfl rfl rfl rfl ?_) | refine gi_seq ?_ | refine gi_plain ?_ | (refine gi_cnd ?_; first | refine gi_true rfl ?_ | refine gi_false rfl ?_)))
                                refine gi_retW hT Try.func42 rfl rfl [] rfl rfl rfl rfl ?_
                                exact ⟨⟨_, rfl⟩, rfl⟩
                              · (repeat (first | refine r_end ?_ | (refine r_op ?_; first | refine r_pure hT rfl rfl rfl rfl rfl rfl ?_ | refine r_load hT rfl rfl rfl rfl rfl rfl rfl rfl rfl ?_)))
                                refine gi_cond rfl (fun d1 => ?_) (fun d1 => ?_)
                                · (repeat (first | refine r_end ?_ | (refine r_op ?_; refine r_pure hT rfl rfl rfl rfl rfl rfl ?_) | refine gi_seq ?_ | refine gi_plain ?_))
                                  refine gi_retW hT Try.func42 rfl rfl [] rfl rfl rfl rfl ?_
                                  exact ⟨⟨_, rfl⟩, rfl⟩
                                · (repeat (first | refine r_end ?_ | (refine r_op ?_; refine r_pure hT rfl rfl rfl rfl rfl rfl ?_) | refine gi_plain ?_ | refine gi_skip ?_ | refine gi_inBlock ?_))
                                  exact on _ _ _ ⟨rfl, rfl, trivial⟩ ⟨rfl, trivial⟩ trivial
                    · (repeat (first | refine r_end ?_ | (refine r_op ?_; refine r_pure hT rfl rfl rfl rfl rfl rfl ?_) | refine gi_seq ?_ | refine gi_plain ?_ | refine gi_block ?_ | refine gi_exit rfl ?_))
                      refine gi_loop (σ := Nat) (fun j => [(6, I j), (1, .box 0 0)]) (fun _ => [hLs x]) (fun _ => []) (fun j => j ≤ x.rt.length) (fun j => x.rt.length - j) 0 (Nat.zero_le _) ⟨rfl, rfl, trivial⟩ ⟨rfl, trivial⟩ trivial (fun _ => rfl) (fun j hj next => ?_)
                      have hj : j ≤ x.rt.length := hj
                      (repeat (first | refine r_end ?_ | (refine r_op ?_; first | refine r_pure hT rfl rfl rfl rfl rfl rfl ?_ | refine r_load hT rfl rfl rfl rfl rfl rfl rfl rfl rfl ?_) | refine gi_seq ?_ | refine gi_plain ?_))
                      refine gi_lt (q := ((x.rt.map nRow).length : Int)) rfl (fun h3 => ?_) (fun h3 => ?_)
                      · rw [List.length_map] at h3
                        have hjl : j < x.rt.length := by omega
                        obtain ⟨y, hy⟩ : ∃ y, x.rt[j]? = some y := ⟨_, List.getElem?_eq_getElem hjl⟩
                        have on : ∀ F1 H1 S1, SubF [(6, I (wr .i64 ((j : Int) + 1))), (1, .box 0 0)] F1 → SubH [hLs x] H1 → SubS [] S1 → GI _ _ F1 H1 S1 := fun F1 H1 S1 hF hH hS => by
                          refine next (j + 1) F1 H1 S1 hjl (by omega) ?_ hH hS
                          rw [wr_i64 (by omega) (by omega)] at hF
                          simpa using hF
                        (repeat (first | (refine r_op ?_; first | refine r_pure hT rfl rfl rfl rfl rfl rfl ?_ | refine r_load hT rfl rfl rfl rfl rfl rfl rfl rfl rfl ?_) | refine gi_seq ?_ | refine gi_plain ?_ | refine gi_skip ?_ | refine gi_block ?_))
                        refine r_thaw 141 rfl ?_
                        refine r_idx (row := nRow y) hT rfl rfl rfl rfl rfl rfl rfl rfl rfl rfl rfl rfl (by omega) (by simp [hy]) ?_
                        (repeat ((refine r_op ?_; refine r_load hT rfl rfl rfl rfl rfl rfl rfl rfl rfl ?_)))
                        refine r_call (RightI_ok _) rfl rfl rfl rfl rfl rfl rfl rfl Try.func59 rfl rfl rfl pRE ?_
                        rintro r S1 ⟨⟨b1, rfl⟩, rfl⟩
                        (repeat (first | refine r_end ?_ | (refine r_op ?_; refine r_pure hT rfl rfl rfl rfl rfl rfl ?_)))
                        refine gi_cond rfl (fun d1 => ?_) (fun d1 => ?_)
                        · (repeat (first | refine r_end ?_ | (refine r_op ?_; refine r_pure hT rfl rfl rfl rfl rfl rfl ?_) | refine gi_seq ?_ | refine gi_plain ?_))
                          refine gi_retW hT Try.func42 rfl rfl [] rfl rfl rfl rfl ?_
                          exact ⟨⟨_, rfl⟩, rfl⟩
                        · (repeat (first | refine r_end ?_ | (refine r_op ?_; refine r_pure hT rfl rfl rfl rfl rfl rfl ?_) | refine gi_plain ?_ | refine gi_skip ?_ | refine gi_inBlock ?_))
                          exact on _ _ _ ⟨rfl, rfl, trivial⟩ ⟨rfl, trivial⟩ trivial
                      · (repeat (first | refine r_end ?_ | (refine r_op ?_; refine r_pure hT rfl rfl rfl rfl rfl rfl ?_) | refine gi_seq ?_ | refine gi_plain ?_ | refine gi_block ?_ | refine gi_exit rfl ?_))
                        refine gi_loop (σ := Nat) (fun j => [(7, I j), (1, .box 0 0)]) (fun _ => [hLs x]) (fun _ => []) (fun j => j ≤ x.vt.length) (fun j => x.vt.length - j) 0 (Nat.zero_le _) ⟨rfl, rfl, trivial⟩ ⟨rfl, trivial⟩ trivial (fun _ => rfl) (fun j hj next => ?_)
                        have hj : j ≤ x.vt.length := hj
                        (repeat (first | refine r_end ?_ | (refine r_op ?_; first | refine r_pure hT rfl rfl rfl rfl rfl rfl ?_ | refine r_load hT rfl rfl rfl rfl rfl rfl rfl rfl rfl ?_) | refine gi_seq ?_ | refine gi_plain ?_))
                        refine gi_lt (q := ((x.vt.map Vt.row).length : Int)) rfl (fun h3 => ?_) (fun h3 => ?_)
                        · rw [List.length_map] at h3
                          have hjl : j < x.vt.length := by omega
                          obtain ⟨y, hy⟩ : ∃ y, x.vt[j]? = some y := ⟨_, List.getElem?_eq_getElem hjl⟩
                          have on : ∀ F1 H1 S1, SubF [(7, I (wr .i64 ((j : Int) + 1))), (1, .box 0 0)] F1 → SubH [hLs x] H1 → SubS [] S1 → GI _ _ F1 H1 S1 := fun F1 H1 S1 hF hH hS => by
                            refine next (j + 1) F1 H1 S1 hjl (by omega) ?_ hH hS
                            rw [wr_i64 (by omega) (by omega)] at hF
                            simpa using hF
                          (repeat (first | (refine r_op ?_; first | refine r_pure hT rfl rfl rfl rfl rfl rfl ?_ | refine r_load hT rfl rfl rfl rfl rfl rfl rfl rfl rfl ?_) | refine gi_seq ?_ | refine gi_plain ?_ | refine gi_skip ?_ | refine gi_block ?_))
                          refine r_thaw 155 rfl ?_
                          refine r_idx (row := y.row) hT rfl rfl rfl rfl rfl rfl rfl rfl rfl rfl rfl rfl (by omega) (by simp [hy]) ?_
                          (repeat ((refine r_op ?_; first | refine r_pure hT rfl rfl rfl rfl rfl rfl ?_ | refine r_load hT rfl rfl rfl rfl rfl rfl rfl rfl rfl ?_)))
                          refine r_case (d := 161) rfl (fun c161 => ?_) (fun c161 => ?_)
                          · (repeat (first | refine r_end ?_ | (refine r_op ?_; first | refine r_pure hT rfl rfl rfl rfl rfl rfl ?_ | refine r_off rfl rfl rfl rfl rfl ?_) | refine gi_seq ?_ | refine gi_plain ?_ | (refine gi_cnd ?_; first | refine gi_true rfl ?_ | refine gi_false rfl ?_)))
                            refine gi_retW hT Try.func42 rfl rfl [] rfl rfl rfl rfl ?_
                            exact ⟨⟨_, rfl⟩, rfl⟩
                          · (repeat ((refine r_op ?_; first | refine r_pure hT rfl rfl rfl rfl rfl rfl ?_ | refine r_load hT rfl rfl rfl rfl rfl rfl rfl rfl rfl ?_)))
                            refine r_thaw 163 rfl ?_
                            refine r_idx (row := y.row) hT rfl rfl rfl rfl rfl rfl rfl rfl rfl rfl rfl rfl (by omega) (by simp [hy]) ?_
                            (repeat ((refine r_op ?_; first | refine r_pure hT rfl rfl rfl rfl rfl rfl ?_ | refine r_load hT rfl rfl rfl rfl rfl rfl rfl rfl rfl ?_)))
                            refine r_case (d := 170) rfl (fun c170 => ?_) (fun c170 => ?_)
                            · (repeat (first | refine r_end ?_ | (refine r_op ?_; first | refine r_pure hT rfl rfl rfl rfl rfl rfl ?_ | refine r_off rfl rfl rfl rfl rfl ?_) | refine gi_seq ?_ | refine gi_plain ?_ | (refine gi_cnd ?_; first | refine gi_true rfl ?_ | refine gi_false rfl ?_)))
                              refine gi_retW hT Try.func42 rfl rfl [] rfl rfl rfl rfl ?_
                              exact ⟨⟨_, rfl⟩, rfl⟩
                            · (repeat ((refine r_op ?_; first | refine r_pure hT rfl rfl rfl rfl rfl rfl ?_ | refine r_load hT rfl rfl rfl rfl rfl rfl rfl rfl rfl ?_)))
                              refine r_thaw 172 rfl ?_
                              refine r_idx (row := y.row) hT rfl rfl rfl rfl rfl rfl rfl rfl rfl rfl rfl rfl (by omega) (by simp [hy]) ?_
                              (repeat ((refine r_op ?_; first | refine r_pure hT rfl rfl rfl rfl rfl rfl ?_ | refine r_load hT rfl rfl rfl rfl rfl rfl rfl rfl rfl ?_)))
                              refine r_call (RightI_ok _) rfl rfl rfl rfl rfl rfl rfl rfl Try.func59 rfl rfl rfl pRE ?_
                              rintro r S1 ⟨⟨b1, rfl⟩, rfl⟩
                              (repeat (first | refine r_end ?_ | (refine r_op ?_; refine r_pure hT rfl rfl rfl rfl rfl rfl ?_)))
                              refine gi_cond rfl (fun d1 => ?_) (fun d1 => ?_)
                              · (repeat (first | refine r_end ?_ | (refine r_op ?_; refine r_pure hT rfl rfl rfl rfl rfl rfl ?_) | refine gi_seq ?_ | refine gi_plain ?_))
                                refine gi_retW hT Try.func42 rfl rfl [] rfl rfl rfl rfl ?_
                                exact ⟨⟨_, rfl⟩, rfl⟩
                              · (repeat (first | refine r_end ?_ | (refine r_op ?_; refine r_pure hT rfl rfl rfl rfl rfl rfl ?_) | refine gi_plain ?_ | refine gi_skip ?_ | refine gi_inBlock ?_))
                                exact on _ _ _ ⟨rfl, rfl, trivial⟩ ⟨rfl, trivial⟩ trivial
                        · (repeat (first | refine r_end ?_ | (refine r_op ?_; refine r_pure hT rfl rfl rfl rfl rfl rfl ?_) | refine gi_seq ?_ | refine gi_plain ?_ | refine gi_exit rfl ?_))
                          refine gi_retW hT Try.func42 rfl rfl [] rfl rfl rfl rfl ?_
                          exact ⟨⟨_, rfl⟩, rfl⟩
end Go.Proofs.Ytmocggibcniggaa.Kt
namespace Go.Proofs.Ytmocggibcniggaa.Kt
open Go Kw Go.Proofs
attribute [local irreducible] Kw.GI Kw.GR Kw.FnR Kw.FnX
set_option maxHeartbeats 8000000
set_option maxRecDepth 100000
theorem y_flat_Key : flatK Try.prog 96 = some [some .i64, some .i64, some .i64] := by kernel_rfl
theorem pKy {x : Ls} : ∀ r S1, (r = .agg [I x.kind, I x.id, I x.adv] ∧ S1 = []) → plainA r = true ∧ PlainS S1 := by
  rintro r S ⟨rfl, rfl⟩
  exact ⟨rfl, PlainS.nil⟩
abbrev RF (l : List Ls) : AV → Sp → Prop := fun r S => (∃ b, r = Bo b ∧ (b = true → Few l)) ∧ S = []
theorem pRF {l : List Ls} : ∀ r S1, ((∃ b, r = Bo b ∧ (b = true → Few l)) ∧ S1 = []) → plainA r = true ∧ PlainS S1 := by
  rintro r S ⟨⟨b, rfl, _⟩, rfl⟩
  exact ⟨rfl, PlainS.nil⟩
/-- A right list is a short one. -/
theorem RightL_ok (l : List Ls) : FnR Try.prog 13 [fsL l] (RF l) := by
  refine fnR_intro (T := TT) (n := 45) Try.func13 rfl rfl rfl (fun w Z => ?_)
  (repeat (first | refine r_end ?_ | (refine r_op ?_; refine r_pure hT rfl rfl rfl rfl rfl rfl ?_) | refine gi_seq ?_ | refine gi_plain ?_))
  refine gi_thaw 0 rfl ?_
  refine gi_lt (q := ((l.map Ls.row).length : Int)) rfl (fun h1 => ?_) (fun h1 => ?_)
  · (repeat (first | refine r_end ?_ | (refine r_op ?_; refine r_pure hT rfl rfl rfl rfl rfl rfl ?_) | refine gi_seq ?_ | refine gi_plain ?_))
    refine gi_retW hT Try.func13 rfl rfl [] rfl rfl rfl rfl ?_
    exact ⟨⟨_, rfl, fun h => by cases h⟩, rfl⟩
  rw [List.length_map] at h1
  (repeat (first | refine r_end ?_ | (refine r_op ?_; refine r_pure hT rfl rfl rfl rfl rfl rfl ?_) | refine gi_seq ?_ | refine gi_plain ?_ | refine gi_skip ?_ | refine gi_block ?_))
  refine gi_loop (σ := Nat) (fun j => [(3, I j), (0, .r (.rs 12 (l.map Ls.row)))]) (fun _ => []) (fun _ => []) (fun j => j ≤ l.length ∧ ∀ i, i < j → ∀ x, l[i]? = some x → x.lk.length ≤ 70 ∧ x.rt.length ≤ 70) (fun j => l.length - j) 0 ⟨Nat.zero_le _, fun i h => absurd h (Nat.not_lt_zero _)⟩ ⟨rfl, rfl, trivial⟩ trivial trivial (fun _ => rfl) (fun j hj next => ?_)
  obtain ⟨hj, hn⟩ := hj
  (repeat (first | refine r_end ?_ | (refine r_op ?_; refine r_pure hT rfl rfl rfl rfl rfl rfl ?_) | refine gi_seq ?_ | refine gi_plain ?_))
  refine gi_lt (q := ((l.map Ls.row).length : Int)) rfl (fun h3 => ?_) (fun h3 => ?_)
  · rw [List.length_map] at h3
    have hjl : j < l.length := by omega
    obtain ⟨x, hx⟩ : ∃ x, l[j]? = some x := ⟨_, List.getElem?_eq_getElem hjl⟩
    (repeat (first | (refine r_op ?_; refine r_pure hT rfl rfl rfl rfl rfl rfl ?_) | refine gi_seq ?_ | refine gi_plain ?_ | refine gi_skip ?_ | refine gi_block ?_))
    refine r_idx (row := x.row) hT rfl rfl rfl rfl rfl rfl rfl rfl rfl rfl rfl rfl (by omega) (by simp [hx]) ?_
    (repeat ((refine r_op ?_; refine r_load hT rfl rfl rfl rfl rfl rfl rfl rfl rfl ?_)))
    refine r_call (Great_ok x) rfl rfl rfl rfl rfl rfl rfl rfl Try.func41 rfl rfl rfl pGr ?_
    rintro r S1 ⟨⟨b1, rfl, hb1⟩, rfl⟩
    (repeat ((refine r_op ?_; refine r_pure hT rfl rfl rfl rfl rfl rfl ?_)))
    refine r_case (d := 19) rfl (fun c1 => ?_) (fun c1 => ?_)
    · (repeat (first | refine r_end ?_ | (refine r_op ?_; first | refine r_pure hT rfl rfl rfl rfl rfl rfl ?_ | refine r_off rfl rfl rfl rfl rfl ?_) | refine gi_seq ?_ | refine gi_plain ?_ | (refine gi_cnd ?_; first | refine gi_true rfl ?_ | refine gi_false rfl ?_)))
      refine gi_retW hT Try.func13 rfl rfl [] rfl rfl rfl rfl ?_
      exact ⟨⟨_, rfl, fun h => by cases h⟩, rfl⟩
    obtain ⟨l1, l2, l3⟩ := hb1 c1
    (repeat ((refine r_op ?_; refine r_pure hT rfl rfl rfl rfl rfl rfl ?_)))
    refine r_idx (row := x.row) hT rfl rfl rfl rfl rfl rfl rfl rfl rfl rfl rfl rfl (by omega) (by simp [hx]) ?_
    (repeat ((refine r_op ?_; refine r_load hT rfl rfl rfl rfl rfl rfl rfl rfl rfl ?_)))
    refine r_call (RightLsa_ok x (by omega) (by omega) (by omega)) rfl rfl rfl rfl rfl rfl rfl rfl Try.func42 rfl rfl rfl pRE ?_
    rintro r S1 ⟨⟨b2, rfl⟩, rfl⟩
    (repeat (first | refine r_end ?_ | (refine r_op ?_; refine r_pure hT rfl rfl rfl rfl rfl rfl ?_)))
    refine gi_cond rfl (fun c2 => ?_) (fun c2 => ?_)
    · (repeat (first | refine r_end ?_ | (refine r_op ?_; refine r_pure hT rfl rfl rfl rfl rfl rfl ?_) | refine gi_seq ?_ | refine gi_plain ?_))
      refine gi_retW hT Try.func13 rfl rfl [] rfl rfl rfl rfl ?_
      exact ⟨⟨_, rfl, fun h => by cases h⟩, rfl⟩
    (repeat (first | refine r_end ?_ | (refine r_op ?_; refine r_pure hT rfl rfl rfl rfl rfl rfl ?_) | refine gi_seq ?_ | refine gi_plain ?_ | refine gi_skip ?_ | refine gi_block ?_))
    refine gi_loop (σ := Nat) (fun k => [(4, I k), (3, I j), (0, .r (.rs 12 (l.map Ls.row)))]) (fun _ => []) (fun _ => []) (fun k => k ≤ j) (fun k => j - k) 0 (Nat.zero_le _) ⟨rfl, rfl, rfl, trivial⟩ trivial trivial (fun _ => rfl) (fun k hk next2 => ?_)
    have hk : k ≤ j := hk
    (repeat (first | refine r_end ?_ | (refine r_op ?_; refine r_pure hT rfl rfl rfl rfl rfl rfl ?_) | refine gi_seq ?_ | refine gi_plain ?_))
    refine gi_lt rfl (fun h4 => ?_) (fun h4 => ?_)
    · have hkj : k < j := by omega
      obtain ⟨y, hy⟩ : ∃ y, l[k]? = some y := ⟨_, List.getElem?_eq_getElem (by omega)⟩
      (repeat (first | refine gi_seq ?_ | refine gi_skip ?_ | refine gi_block ?_))
      refine gi_drawM [] [(0, .p), (1, .p), (2, .p), (3, .p), (6, .p), (7, .p), (8, .p), (9, .p), (4, .t), (10, .t), (5, .o), (11, .o), (12, .p)] [0, 0, 3, 4, 8, 16, 0, 0, 192, 256, 512, 1056, 2080] [0, 0, 3, 4, 8, 16, 0, 0, 192, 256, 512, 1024, 2080] Kt.hm rfl (by kernel_rfl) (fun w1 K => ?_)
      (repeat ((refine r_op ?_; refine r_pure hT rfl rfl rfl rfl rfl rfl ?_)))
      refine r_idx (row := y.row) hT rfl rfl rfl rfl rfl rfl rfl rfl rfl rfl rfl rfl (by omega) (by simp [hy]) ?_
      (repeat ((refine r_op ?_; refine r_pure hT rfl rfl rfl rfl rfl rfl ?_)))
      refine r_idx (row := x.row) hT rfl rfl rfl rfl rfl rfl rfl rfl rfl rfl rfl rfl (by omega) (by simp [hx]) ?_
      (repeat ((refine r_op ?_; first | refine r_pure hT rfl rfl rfl rfl rfl rfl ?_ | refine r_load hT rfl rfl rfl rfl rfl rfl rfl rfl rfl ?_)))
      refine r_call (KeyOf_ok y) rfl rfl rfl rfl rfl rfl rfl rfl Try.func43 rfl rfl rfl pKy ?_
      rintro r S1 ⟨rfl, rfl⟩
      skip
      refine r_call (KeyOf_ok x) rfl rfl rfl rfl rfl rfl rfl rfl Try.func43 rfl rfl rfl pKy ?_
      rintro r S1 ⟨rfl, rfl⟩
      skip
      refine r_eqT _ rfl rfl rfl rfl rfl rfl rfl rfl rfl y_flat_Key ?_
      (repeat (refine r_end ?_))
      refine gi_cond rfl (fun c3 => ?_) (fun c3 => ?_)
      · (repeat (first | refine r_end ?_ | (refine r_op ?_; refine r_pure hT rfl rfl rfl rfl rfl rfl ?_) | refine gi_seq ?_ | refine gi_plain ?_))
        refine gi_retW hT Try.func13 rfl rfl [] rfl rfl rfl rfl ?_
        exact ⟨⟨_, rfl, fun h => by cases h⟩, rfl⟩
      (repeat (first | refine r_end ?_ | (refine r_op ?_; refine r_pure hT rfl rfl rfl rfl rfl rfl ?_) | refine gi_plain ?_ | refine gi_skip ?_ | refine gi_inBlock ?_))
      refine next2 (k + 1) _ _ _ hkj (by omega) ⟨?_, rfl, rfl, trivial⟩ trivial trivial
      show some (I (wr .i64 ((k : Int) + 1))) = _
      rw [wr_i64 (by omega) (by omega)]
      simp
    · (repeat (first | refine r_end ?_ | (refine r_op ?_; refine r_pure hT rfl rfl rfl rfl rfl rfl ?_) | refine gi_plain ?_ | refine gi_inBlock ?_ | refine gi_exit rfl ?_))
      refine next (j + 1) _ _ _ ⟨hjl, fun i hi z hz => ?_⟩ (by omega) ⟨?_, rfl, trivial⟩ trivial trivial
      · rcases Nat.lt_succ_iff_lt_or_eq.1 hi with hi | rfl
        · exact hn i hi z hz
        · rw [hx] at hz; cases hz; exact ⟨l1, l2⟩
      · show some (I (wr .i64 ((j : Int) + 1))) = _
        rw [wr_i64 (by omega) (by omega)]
        simp
  · rw [List.length_map] at h3
    (repeat (first | refine r_end ?_ | (refine r_op ?_; refine r_pure hT rfl rfl rfl rfl rfl rfl ?_) | refine gi_seq ?_ | refine gi_plain ?_ | refine gi_exit rfl ?_))
    refine gi_retW hT Try.func13 rfl rfl [] rfl rfl rfl rfl ?_
    refine ⟨⟨_, rfl, fun _ => ⟨by omega, fun x hx => ?_, fun x hx => ?_⟩⟩, rfl⟩
    · obtain ⟨i, hi⟩ := List.mem_iff_getElem?.1 hx
      have hl := (List.getElem?_eq_some_iff.1 hi).1
      have := (hn i (by omega) x hi).1
      omega
    · obtain ⟨i, hi⟩ := List.mem_iff_getElem?.1 hx
      have hl := (List.getElem?_eq_some_iff.1 hi).1
      have := (hn i (by omega) x hi).2
      omega
end Go.Proofs.Ytmocggibcniggaa.Kt
namespace Go.Proofs.Ytmocggibcniggaa.Kt
open Go Kw Go.Proofs
attribute [local irreducible] Kw.GI Kw.GR Kw.FnR Kw.FnX Kw.FnI
set_option maxHeartbeats 16000000
set_option maxRecDepth 100000
theorem RightI19 (l : List Ls) : FnR Try.prog 13 [rsL l] (RF l) := FnR.up (by
  show FnR _ _ [upA (rsL l)] _
  rw [up_rsL]; exact RightL_ok l) pRF
theorem rtEq_id (x : Rt) : (eqB x.p x.p && (eqB x.b x.b && (eqB x.c x.c && (eqB x.o x.o && (eqB x.n x.n && true))))) = true := by
  rw [eqB_eq, eqB_eq, eqB_eq, eqB_eq, eqB_eq]; simp
theorem RouteAll_ok (l : List Ls) (s a : Int) (raw : List Rt) : FnR Try.prog 8 [rsL l, I s, I a, rsRt raw] (RB true) := by
  refine fnR_intro (T := TT) (n := 85) Try.func8 rfl rfl rfl (fun w Z => ?_)
  (repeat (first | refine r_end ?_ | (refine r_op ?_; refine r_pure hT rfl rfl rfl rfl rfl rfl ?_) | refine gi_seq ?_ | refine gi_plain ?_))
  refine r_call (RightI19 l) rfl rfl rfl rfl rfl rfl rfl rfl Try.func13 rfl rfl rfl pRF ?_
  rintro r S1 ⟨⟨b, rfl, hb⟩, rfl⟩
  (repeat ((refine r_op ?_; refine r_pure hT rfl rfl rfl rfl rfl rfl ?_)))
  refine r_case (d := 22) rfl (fun c1 => ?_) (fun c1 => ?_)
  · (repeat (first | refine r_end ?_ | (refine r_op ?_; first | refine r_pure hT rfl rfl rfl rfl rfl rfl ?_ | refine r_off rfl rfl rfl rfl rfl ?_) | refine gi_seq ?_ | refine gi_plain ?_ | (refine gi_cnd ?_; first | refine gi_true rfl ?_ | refine gi_false rfl ?_)))
    refine r_call (awake19_ok) rfl rfl rfl rfl rfl rfl rfl rfl Try.func32 rfl rfl rfl pB ?_
    rintro r S1 ⟨rfl, rfl⟩
    (repeat (first | refine r_end ?_ | (refine r_op ?_; refine r_pure hT rfl rfl rfl rfl rfl rfl ?_)))
    refine gi_retW hT Try.func8 rfl rfl [] rfl rfl rfl rfl ?_
    exact ⟨rfl, rfl⟩
  rw [notB_eq] at c1
  have hf := hb (by simpa using c1)
  (repeat (first | refine r_end ?_ | (refine r_op ?_; refine r_pure hT rfl rfl rfl rfl rfl rfl ?_)))
  refine gi_lt (q := ((raw.map Rt.row).length : Int)) rfl (fun h2 => ?_) (fun h2 => ?_)
  · (repeat (first | refine gi_seq ?_ | refine gi_plain ?_))
    refine r_call (awake19_ok) rfl rfl rfl rfl rfl rfl rfl rfl Try.func32 rfl rfl rfl pB ?_
    rintro r S1 ⟨rfl, rfl⟩
    (repeat (first | refine r_end ?_ | (refine r_op ?_; refine r_pure hT rfl rfl rfl rfl rfl rfl ?_)))
    refine gi_retW hT Try.func8 rfl rfl [] rfl rfl rfl rfl ?_
    exact ⟨rfl, rfl⟩
  rw [List.length_map] at h2
  (repeat (first | (refine r_op ?_; refine r_pure hT rfl rfl rfl rfl rfl rfl ?_) | refine gi_seq ?_ | refine gi_plain ?_ | refine gi_skip ?_))
  refine r_call (MapR l hf) rfl rfl rfl rfl rfl rfl rfl rfl Try.func15 rfl rfl rfl pMapP ?_
  rintro r S1 ⟨rfl, rfl⟩
  (repeat (first | refine r_end ?_ | (refine r_op ?_; first | refine r_store hT rfl rfl rfl rfl rfl rfl rfl rfl rfl rfl ?_ | refine r_alloc hT rfl rfl rfl rfl rfl rfl rfl rfl rfl ?_) | refine gi_seq ?_))
  refine gi_freeze 0 (L' := (mapL l).vs.map Vt.row) rfl rfl ?_
  refine gi_freeze 1 (L' := (mapL l).es.map Eg.row) rfl rfl ?_
  refine gi_freeze 2 (L' := (mapL l).sb.map Sb.row) rfl rfl ?_
  refine gi_freeze 3 (L' := (mapL l).sn.map Sn.row) rfl rfl ?_
  refine gi_freeze 4 (L' := (mapL l).wl.map nRow) rfl rfl ?_
  refine gi_weak (F' := [(9, .box 0 0), (1, I s), (2, I a), (3, rsRt raw)]) (H' := [hMf (mapL l)]) (S' := []) ⟨rfl, rfl, rfl, rfl, trivial⟩ ⟨rfl, trivial⟩ trivial rfl ?_
  have hlx := rts_len hf s
  have hR := RoutesF l s hf
  have hrR := rRoutes_ok l s hf
  unfold rtsL at hR hlx
  generalize refR (rawL l s) = x at hR hrR hlx
  (repeat (first | (refine r_op ?_; first | refine r_pure hT rfl rfl rfl rfl rfl rfl ?_ | refine r_load hT rfl rfl rfl rfl rfl rfl rfl rfl rfl ?_) | refine gi_plain ?_))
  refine r_callX [] [] (hR) rfl rfl rfl rfl rfl rfl Try.func30 rfl rfl rfl rfl rfl rfl rfl pFx ?_
  rintro r H1 S1 ⟨rfl, rfl, rfl⟩
  (repeat (first | refine r_end ?_ | (refine r_op ?_; refine r_pure hT rfl rfl rfl rfl rfl rfl ?_) | refine gi_seq ?_ | refine gi_plain ?_))
  refine r_thaw 34 rfl ?_
  refine r_call (pFind_ok x a (by omega)) rfl rfl rfl rfl rfl rfl rfl rfl Try.func33 rfl rfl rfl pFdR ?_
  rintro r S1 ⟨rfl, rfl⟩
  (repeat (first | refine r_end ?_ | (refine r_op ?_; first | refine r_pure hT rfl rfl rfl rfl rfl rfl ?_ | refine r_store hT rfl rfl rfl rfl rfl rfl rfl rfl rfl rfl ?_ | refine r_alloc hT rfl rfl rfl rfl rfl rfl rfl rfl rfl ?_) | refine gi_seq ?_ | refine gi_plain ?_))
  refine r_thaw 40 rfl ?_
  refine r_call (rFind_ok x a (by omega)) rfl rfl rfl rfl rfl rfl rfl rfl Try.func34 rfl rfl rfl pFdR ?_
  rintro r S1 ⟨rfl, rfl⟩
  generalize findF x a = y
  (repeat (first | refine r_end ?_ | (refine r_op ?_; first | refine r_pure hT rfl rfl rfl rfl rfl rfl ?_ | refine r_store hT rfl rfl rfl rfl rfl rfl rfl rfl rfl rfl ?_ | refine r_alloc hT rfl rfl rfl rfl rfl rfl rfl rfl rfl ?_) | refine gi_seq ?_ | refine gi_plain ?_))
  refine r_call (pFind_ok raw a (by omega)) rfl rfl rfl rfl rfl rfl rfl rfl Try.func33 rfl rfl rfl pFdR ?_
  rintro r S1 ⟨rfl, rfl⟩
  (repeat (first | refine r_end ?_ | (refine r_op ?_; first | refine r_pure hT rfl rfl rfl rfl rfl rfl ?_ | refine r_store hT rfl rfl rfl rfl rfl rfl rfl rfl rfl rfl ?_ | refine r_alloc hT rfl rfl rfl rfl rfl rfl rfl rfl rfl ?_) | refine gi_seq ?_ | refine gi_plain ?_))
  refine r_call (rFind_ok raw a (by omega)) rfl rfl rfl rfl rfl rfl rfl rfl Try.func34 rfl rfl rfl pFdR ?_
  rintro r S1 ⟨rfl, rfl⟩
  generalize findF raw a = z
  (repeat (first | refine r_end ?_ | (refine r_op ?_; first | refine r_pure hT rfl rfl rfl rfl rfl rfl ?_ | refine r_store hT rfl rfl rfl rfl rfl rfl rfl rfl rfl rfl ?_ | refine r_alloc hT rfl rfl rfl rfl rfl rfl rfl rfl rfl ?_) | refine gi_seq ?_))
  refine gi_weak (F' := [(10, fsRt x), (9, .box 0 0), (1, I s), (11, .box 1 0), (13, .box 2 0), (15, .box 3 0), (17, .box 4 0), (12, Bo y.2), (14, Bo y.2), (16, Bo z.2), (18, Bo z.2)]) (H' := [hMf (mapL l), hRt y.1, hRt y.1, hRt z.1, hRt z.1]) (S' := []) ⟨rfl, rfl, rfl, rfl, rfl, rfl, rfl, rfl, rfl, rfl, rfl, trivial⟩ ⟨rfl, rfl, rfl, rfl, rfl, trivial⟩ trivial rfl ?_
  obtain ⟨y, by_⟩ := y
  obtain ⟨z, bz_⟩ := z
  (repeat (first | (refine r_op ?_; first | refine r_pure hT rfl rfl rfl rfl rfl rfl ?_ | refine r_load hT rfl rfl rfl rfl rfl rfl rfl rfl rfl ?_) | refine gi_plain ?_))
  refine r_callX [] [] (hrR) rfl rfl rfl rfl rfl rfl Try.func31 rfl rfl rfl rfl rfl rfl rfl pCp ?_
  rintro r H1 S1 ⟨rfl, rfl, rfl⟩
  skip
  refine r_freeze 0 rfl rfl ?_
  refine r_thaw 57 rfl ?_
  refine r_thaw 60 rfl ?_
  refine r_call (Same_ok x (by omega)) rfl rfl rfl rfl rfl rfl rfl rfl Try.func29 rfl rfl rfl pB ?_
  rintro r S1 ⟨rfl, rfl⟩
  (repeat ((refine r_op ?_; first | refine r_pure hT rfl rfl rfl rfl rfl rfl ?_ | refine r_load hT rfl rfl rfl rfl rfl rfl rfl rfl rfl ?_)))
  refine r_eqT _ rfl rfl rfl rfl rfl rfl rfl rfl rfl y_flat_Rt ?_
  (repeat ((refine r_op ?_; refine r_pure hT rfl rfl rfl rfl rfl rfl ?_)))
  refine r_known (d := 67) (b := true) rfl (rtEq_id y) ?_
  (repeat ((refine r_op ?_; refine r_pure hT rfl rfl rfl rfl rfl rfl ?_)))
  refine r_known (d := 72) (b := true) rfl (by rw [beqB_eq]; simp) ?_
  (repeat ((refine r_op ?_; refine r_load hT rfl rfl rfl rfl rfl rfl rfl rfl rfl ?_)))
  refine r_eqT _ rfl rfl rfl rfl rfl rfl rfl rfl rfl y_flat_Rt ?_
  (repeat ((refine r_op ?_; refine r_pure hT rfl rfl rfl rfl rfl rfl ?_)))
  refine r_known (d := 77) (b := true) rfl (rtEq_id z) ?_
  (repeat ((refine r_op ?_; refine r_pure hT rfl rfl rfl rfl rfl rfl ?_)))
  refine r_known (d := 82) (b := true) rfl (by rw [beqB_eq]; simp) ?_
  skip
  refine r_call (awake19_ok) rfl rfl rfl rfl rfl rfl rfl rfl Try.func32 rfl rfl rfl pB ?_
  rintro r S1 ⟨rfl, rfl⟩
  (repeat (first | refine r_end ?_ | (refine r_op ?_; refine r_pure hT rfl rfl rfl rfl rfl rfl ?_)))
  refine gi_retW hT Try.func8 rfl rfl [] rfl rfl rfl rfl ?_
  exact ⟨rfl, rfl⟩
end Go.Proofs.Ytmocggibcniggaa.Kt
