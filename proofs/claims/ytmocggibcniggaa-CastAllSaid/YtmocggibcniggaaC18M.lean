/- Part of the proofs of this seat's statements: what the functions compute. No condition. -/
import Derived.Test.YtmocggibcniggaaC18L
import Derived.Test.YtmocggibcniggaaK4
set_option linter.unusedSimpArgs false
set_option linter.unusedVariables false
namespace Go.Proofs.Ytmocggibcniggaa.Kt
open Go Kw Go.Proofs
attribute [local irreducible] Kw.GI Kw.GR Kw.FnR Kw.FnX
set_option maxHeartbeats 8000000
set_option maxRecDepth 100000
theorem IndexV_ok (l : List Vt) (v : Vt) (hl : l.length < 1000000) : FnR Try.prog 83 [rsV l, v.av] (fun r S => (∃ n : Int, r = I n ∧ leB 0 n = l.any (fun x => decide (x = v))) ∧ S = []) := by
  refine fnR_intro (T := TT) (n := 19) Try.func83 rfl rfl rfl (fun w Z => ?_)
  (repeat (first | refine r_end ?_ | (refine r_op ?_; first | refine r_pure hT rfl rfl rfl rfl rfl rfl ?_ | refine r_box rfl rfl rfl rfl rfl rfl rfl rfl rfl ?_) | refine gi_seq ?_ | refine gi_plain ?_ | refine gi_block ?_))
  refine gi_loop (σ := Nat) (fun j => [(8, I j), (7, I l.length), (3, .box 0 0), (0, rsV l)]) (fun _ => [hV v]) (fun _ => []) (fun j => j ≤ l.length ∧ (l.take j).any (fun x => decide (x = v)) = false) (fun j => l.length - j) 0 ⟨Nat.zero_le _, rfl⟩ ⟨rfl, by show some (I ((l.map Vt.row).length : Nat)) = _; rw [List.length_map], rfl, rfl, trivial⟩ ⟨rfl, trivial⟩ trivial (fun _ => rfl) (fun j hj next => ?_)
  obtain ⟨hj, hn⟩ := hj
  (repeat (first | refine r_end ?_ | (refine r_op ?_; refine r_pure hT rfl rfl rfl rfl rfl rfl ?_) | refine gi_seq ?_ | refine gi_plain ?_))
  refine gi_lt rfl (fun h3 => ?_) (fun h3 => ?_)
  · have hjl : j < l.length := by omega
    obtain ⟨x, hx⟩ : ∃ x, l[j]? = some x := ⟨_, List.getElem?_eq_getElem hjl⟩
    have hat := any_take (fun x => decide (x = v)) hx
    rw [hn, Bool.false_or] at hat
    (repeat (first | refine r_end ?_ | (refine r_op ?_; refine r_pure hT rfl rfl rfl rfl rfl rfl ?_) | refine gi_seq ?_ | refine gi_plain_ne 4 rfl ?_ | refine gi_skip ?_ | refine gi_block ?_))
    refine gi_drawM [] [(1, .p), (2, .p), (3, .p), (0, .t), (4, .t), (5, .p)] [0, 0, 0, 6, 8, 17] [0, 0, 0, 6, 8, 17] hm rfl (by kernel_rfl) (fun w1 K => ?_)
    (repeat ((refine r_op ?_; refine r_pure hT rfl rfl rfl rfl rfl rfl ?_)))
    refine r_idx (row := x.row) hT rfl rfl rfl rfl rfl rfl rfl rfl rfl rfl rfl rfl (by omega) (by simp [hx]) ?_
    (repeat ((refine r_op ?_; refine r_load hT rfl rfl rfl rfl rfl rfl rfl rfl rfl ?_)))
    refine r_eqT _ rfl rfl rfl rfl rfl rfl rfl rfl rfl y_flat_Vt ?_
    (repeat (refine r_end ?_))
    refine gi_cond rfl (fun c4 => ?_) (fun c4 => ?_)
    · rw [veq_eq v x] at c4
      have hvx := of_decide_eq_true c4
      (repeat (first | refine r_end ?_ | (refine r_op ?_; refine r_pure hT rfl rfl rfl rfl rfl rfl ?_) | refine gi_seq ?_ | refine gi_plain ?_))
      refine gi_retW hT Try.func83 rfl rfl [] rfl rfl rfl rfl ?_
      refine ⟨⟨j, rfl, ?_⟩, rfl⟩
      have : l.any (fun x => decide (x = v)) = true := List.any_eq_true.2 ⟨x, List.mem_of_getElem? hx, decide_eq_true hvx.symm⟩
      rw [this, leB_eq]
      exact decide_eq_true (by omega)
    · rw [veq_eq v x] at c4
      have hvx := of_decide_eq_false c4
      (repeat (first | refine r_end ?_ | (refine r_op ?_; refine r_pure hT rfl rfl rfl rfl rfl rfl ?_) | refine gi_plain ?_ | refine gi_skip ?_ | refine gi_inBlock ?_))
      refine next (j + 1) _ _ _ ⟨hjl, by rw [hat]; exact decide_eq_false (fun e => hvx e.symm)⟩ (by omega) ⟨?_, rfl, rfl, rfl, trivial⟩ ⟨rfl, trivial⟩ trivial
      show some (I (wr .i64 ((j : Int) + 1))) = _
      rw [wr_i64 (by omega) (by omega)]
      simp
  · have hjl : j = l.length := by omega
    subst hjl
    rw [List.take_length] at hn
    (repeat (first | refine r_end ?_ | (refine r_op ?_; refine r_pure hT rfl rfl rfl rfl rfl rfl ?_) | refine gi_seq ?_ | refine gi_plain ?_ | refine gi_exit rfl ?_))
    refine gi_retW hT Try.func83 rfl rfl [] rfl rfl rfl rfl ?_
    refine ⟨⟨-1, rfl, ?_⟩, rfl⟩
    rw [hn, leB_eq]; rfl
theorem pIx {b : Bool} : ∀ r S1, ((∃ n : Int, r = I n ∧ leB 0 n = b) ∧ S1 = []) → plainA r = true ∧ PlainS S1 := by
  rintro r S1 ⟨⟨n, rfl, _⟩, rfl⟩
  exact ⟨rfl, PlainS.nil⟩
theorem ContainsV_ok (l : List Vt) (v : Vt) (hl : l.length < 1000000) : FnR Try.prog 55 [rsV l, v.av] (RB (l.any (fun x => decide (x = v)))) := by
  refine fnR_intro (T := TT) (n := 9) Try.func55 rfl rfl rfl (fun w Z => ?_)
  (repeat (first | refine r_end ?_ | (refine r_op ?_; first | refine r_pure hT rfl rfl rfl rfl rfl rfl ?_ | refine r_load hT rfl rfl rfl rfl rfl rfl rfl rfl rfl ?_ | refine r_box rfl rfl rfl rfl rfl rfl rfl rfl rfl ?_) | refine gi_seq ?_ | refine gi_plain ?_))
  refine r_call (IndexV_ok l v hl) rfl rfl rfl rfl rfl rfl rfl rfl Try.func83 rfl rfl rfl pIx ?_
  rintro r S1 ⟨⟨n, rfl, hn⟩, rfl⟩
  (repeat (first | refine r_end ?_ | (refine r_op ?_; refine r_pure hT rfl rfl rfl rfl rfl rfl ?_)))
  refine gi_retW hT Try.func55 rfl rfl [] rfl rfl rfl rfl ?_
  exact ⟨by rw [← hn], rfl⟩
def aheadI (a b : Vt) : Int := orL [wr .i64 (0 - cmp3 a.k b.k), cmp3 a.i b.i]
theorem ahead_ok (a b : Vt) : FnR Try.prog 95 [a.av, b.av] (RI (aheadI a b)) := by
  refine fnR_intro (T := TT) (n := 18) Try.func95 rfl rfl rfl (fun w Z => ?_)
  (repeat (first | refine r_end ?_ | (refine r_op ?_; first | refine r_pure hT rfl rfl rfl rfl rfl rfl ?_ | refine r_box rfl rfl rfl rfl rfl rfl rfl rfl rfl ?_) | refine gi_seq ?_ | refine gi_plain_ne 1 rfl ?_))
  refine gi_drawM [] [(0, .p), (2, .p), (6, .p), (8, .p), (1, .t), (3, .t), (7, .t), (9, .t), (4, .o), (5, .p), (10, .o), (11, .o), (12, .o), (13, .p)] [0, 1, 0, 4, 10, 16, 0, 64, 0, 256, 656, 1056, 3072, 8191] [0, 1, 0, 4, 10, 16, 0, 64, 0, 256, 640, 1056, 2048, 4096] hm rfl (by kernel_rfl) (fun w1 K => ?_)
  (repeat ((refine r_op ?_; first | refine r_pure hT rfl rfl rfl rfl rfl rfl ?_ | refine r_load hT rfl rfl rfl rfl rfl rfl rfl rfl rfl ?_)))
  refine r_call (Compare_ok a.k b.k) rfl rfl rfl rfl rfl rfl rfl rfl Try.func66 rfl rfl rfl pI ?_
  rintro r S1 ⟨rfl, rfl⟩
  (repeat ((refine r_op ?_; refine r_pure hT rfl rfl rfl rfl rfl rfl ?_)))
  refine r_call (Compare_ok a.i b.i) rfl rfl rfl rfl rfl rfl rfl rfl Try.func66 rfl rfl rfl pI ?_
  rintro r S1 ⟨rfl, rfl⟩
  (repeat ((refine r_op ?_; refine r_lit hT rfl rfl rfl rfl rfl rfl rfl rfl rfl rfl rfl rfl rfl ?_)))
  refine r_call (Or_ok [wr .i64 (0 - cmp3 a.k b.k), cmp3 a.i b.i] (by show (2 : Nat) < _; decide)) rfl rfl rfl rfl rfl rfl rfl rfl Try.func65 rfl rfl rfl pI ?_
  rintro r S1 ⟨rfl, rfl⟩
  (repeat (first | refine r_end ?_ | (refine r_op ?_; refine r_pure hT rfl rfl rfl rfl rfl rfl ?_)))
  refine gi_retW hT Try.func95 rfl rfl [] rfl rfl rfl rfl ?_
  exact ⟨rfl, rfl⟩
end Go.Proofs.Ytmocggibcniggaa.Kt
