/- Part of the proofs of this seat's statements: what the functions compute. No condition. -/
import Derived.Test.YtmocggibcniggaaC18Aa
import Derived.Test.YtmocggibcniggaaK4
set_option linter.unusedSimpArgs false
set_option linter.unusedVariables false
namespace Go.Proofs.Ytmocggibcniggaa.Kt
open Go Kw Go.Proofs
attribute [local irreducible] Kw.GI Kw.GR Kw.FnR Kw.FnX
set_option maxHeartbeats 8000000
set_option maxRecDepth 100000
theorem IndexI_ok (l : List Int) (v : Int) (hl : l.length < 1000000) : FnR Try.prog 82 [rsN l, I v] (fun r S => (∃ n : Int, r = I n ∧ leB 0 n = l.any (fun x => decide (x = v))) ∧ S = []) := by
  refine fnR_intro (T := TT) (n := 19) Try.func82 rfl rfl rfl (fun w Z => ?_)
  (repeat (first | refine r_end ?_ | (refine r_op ?_; refine r_pure hT rfl rfl rfl rfl rfl rfl ?_) | refine gi_seq ?_ | refine gi_plain ?_ | refine gi_block ?_))
  refine gi_loop (σ := Nat) (fun j => [(8, I j), (7, I l.length), (1, I v), (0, rsN l)]) (fun _ => []) (fun _ => []) (fun j => j ≤ l.length ∧ (l.take j).any (fun x => decide (x = v)) = false) (fun j => l.length - j) 0 ⟨Nat.zero_le _, rfl⟩ ⟨rfl, by show some (I ((l.map nRow).length : Nat)) = _; rw [List.length_map], rfl, rfl, trivial⟩ trivial trivial (fun _ => rfl) (fun j hj next => ?_)
  obtain ⟨hj, hn⟩ := hj
  (repeat (first | refine r_end ?_ | (refine r_op ?_; refine r_pure hT rfl rfl rfl rfl rfl rfl ?_) | refine gi_seq ?_ | refine gi_plain ?_))
  refine gi_lt rfl (fun h3 => ?_) (fun h3 => ?_)
  · have hjl : j < l.length := by omega
    obtain ⟨x, hx⟩ : ∃ x, l[j]? = some x := ⟨_, List.getElem?_eq_getElem hjl⟩
    have hat := any_take (fun x => decide (x = v)) hx
    rw [hn, Bool.false_or] at hat
    (repeat (first | refine r_end ?_ | (refine r_op ?_; refine r_pure hT rfl rfl rfl rfl rfl rfl ?_) | refine gi_seq ?_ | refine gi_plain ?_ | refine gi_skip ?_ | refine gi_block ?_))
    refine r_idx (row := nRow x) hT rfl rfl rfl rfl rfl rfl rfl rfl rfl rfl rfl rfl (by omega) (by simp [hx]) ?_
    (repeat (first | refine r_end ?_ | (refine r_op ?_; first | refine r_pure hT rfl rfl rfl rfl rfl rfl ?_ | refine r_load hT rfl rfl rfl rfl rfl rfl rfl rfl rfl ?_)))
    refine gi_eq rfl (fun hvx => ?_) (fun hvx => ?_)
    · (repeat (first | refine r_end ?_ | (refine r_op ?_; refine r_pure hT rfl rfl rfl rfl rfl rfl ?_) | refine gi_seq ?_ | refine gi_plain ?_))
      refine gi_retW hT Try.func82 rfl rfl [] rfl rfl rfl rfl ?_
      refine ⟨⟨j, rfl, ?_⟩, rfl⟩
      have : l.any (fun x => decide (x = v)) = true := List.any_eq_true.2 ⟨x, List.mem_of_getElem? hx, decide_eq_true hvx.symm⟩
      rw [this, leB_eq]
      exact decide_eq_true (by omega)
    · (repeat (first | refine r_end ?_ | (refine r_op ?_; refine r_pure hT rfl rfl rfl rfl rfl rfl ?_) | refine gi_plain ?_ | refine gi_skip ?_ | refine gi_inBlock ?_))
      refine next (j + 1) _ _ _ ⟨hjl, by rw [hat]; exact decide_eq_false (fun e => hvx e.symm)⟩ (by omega) ⟨?_, rfl, rfl, rfl, trivial⟩ trivial trivial
      show some (I (wr .i64 ((j : Int) + 1))) = _
      rw [wr_i64 (by omega) (by omega)]
      simp
  · have hjl : j = l.length := by omega
    subst hjl
    rw [List.take_length] at hn
    (repeat (first | refine r_end ?_ | (refine r_op ?_; refine r_pure hT rfl rfl rfl rfl rfl rfl ?_) | refine gi_seq ?_ | refine gi_plain ?_ | refine gi_exit rfl ?_))
    refine gi_retW hT Try.func82 rfl rfl [] rfl rfl rfl rfl ?_
    refine ⟨⟨-1, rfl, ?_⟩, rfl⟩
    rw [hn, leB_eq]; rfl
theorem ContainsI_ok (l : List Int) (v : Int) (hl : l.length < 1000000) : FnR Try.prog 54 [rsN l, I v] (RB (l.any (fun x => decide (x = v)))) := by
  refine fnR_intro (T := TT) (n := 9) Try.func54 rfl rfl rfl (fun w Z => ?_)
  (repeat (first | refine r_end ?_ | (refine r_op ?_; refine r_pure hT rfl rfl rfl rfl rfl rfl ?_) | refine gi_seq ?_ | refine gi_plain ?_))
  refine r_call (IndexI_ok l v hl) rfl rfl rfl rfl rfl rfl rfl rfl Try.func82 rfl rfl rfl pIx ?_
  rintro r S1 ⟨⟨n, rfl, hn⟩, rfl⟩
  (repeat (first | refine r_end ?_ | (refine r_op ?_; refine r_pure hT rfl rfl rfl rfl rfl rfl ?_)))
  refine gi_retW hT Try.func54 rfl rfl [] rfl rfl rfl rfl ?_
  exact ⟨by rw [← hn], rfl⟩
/-- The nearer one, of those that are. -/
def nearI (a b : Int) : Int := if a < 0 then b else if b < 0 then a else if a ≤ b then a else b
theorem nearest_ok (a b : Int) : FnR Try.prog 56 [I a, I b] (RI (nearI a b)) := by
  refine fnR_intro (T := TT) (n := 16) Try.func56 rfl rfl rfl (fun w Z => ?_)
  (repeat (first | refine r_end ?_ | (refine r_op ?_; refine r_pure hT rfl rfl rfl rfl rfl rfl ?_) | refine gi_seq ?_ | refine gi_plain ?_ | refine gi_block ?_))
  refine gi_lt rfl (fun h3 => ?_) (fun h3 => ?_)
  · (repeat (first | refine r_end ?_ | (refine r_op ?_; refine r_pure hT rfl rfl rfl rfl rfl rfl ?_) | refine gi_seq ?_ | refine gi_plain ?_))
    refine gi_retW hT Try.func56 rfl rfl [] rfl rfl rfl rfl ?_
    exact ⟨by unfold nearI; rw [if_pos h3], rfl⟩
  (repeat (first | refine r_end ?_ | (refine r_op ?_; refine r_pure hT rfl rfl rfl rfl rfl rfl ?_) | refine gi_seq ?_ | refine gi_plain ?_))
  refine gi_lt rfl (fun h4 => ?_) (fun h4 => ?_)
  · (repeat (first | refine r_end ?_ | (refine r_op ?_; refine r_pure hT rfl rfl rfl rfl rfl rfl ?_) | refine gi_seq ?_ | refine gi_plain ?_))
    refine gi_retW hT Try.func56 rfl rfl [] rfl rfl rfl rfl ?_
    exact ⟨by unfold nearI; rw [if_neg (by omega), if_pos h4], rfl⟩
  (repeat (first | refine r_end ?_ | (refine r_op ?_; refine r_pure hT rfl rfl rfl rfl rfl rfl ?_) | refine gi_seq ?_ | refine gi_plain ?_ | refine gi_skip ?_ | refine gi_inBlock ?_))
  refine gi_retW hT Try.func56 rfl rfl [] rfl rfl rfl rfl ?_
  refine ⟨?_, rfl⟩
  unfold nearI
  rw [if_neg (by omega), if_neg (by omega)]
  show I _ = _
  congr 4
  unfold mm
  show (if b < a then b else a) = _
  rcases Int.lt_or_le b a with h | h
  · rw [if_pos h, if_neg (show ¬ a ≤ b by omega)]
  · rw [if_neg (show ¬ b < a by omega), if_pos h]
abbrev fsNd (t : List Nd) : AV := .r (.fs 5 (t.map Nd.row))
abbrev hTt (t : List Nd) : Option (TypeId × List AV) := some (37, [fsNd t])
theorem Backward_ok (t : List Nd) : FnX Try.prog 53 [fsNd t] [] [] (fun r H S => r = .fn 81 [.box 0 0] ∧ H = [hTt t] ∧ S = []) := by
  refine fnX_intro (T := TT) (n := 4) Try.func53 rfl rfl rfl (fun w X Z Y B => ?_)
  (repeat (first | refine r_end ?_ | (refine r_op ?_; first | refine r_pure hT rfl rfl rfl rfl rfl rfl ?_ | refine r_box rfl rfl rfl rfl rfl rfl rfl rfl rfl ?_) | refine gi_seq ?_ | refine gi_plain ?_))
  refine gi_retX hT Try.func53 rfl [0] [] rfl rfl rfl rfl rfl rfl rfl rfl ?_
  exact ⟨rfl, rfl, rfl⟩
end Go.Proofs.Ytmocggibcniggaa.Kt
