/- Part of the proofs of this seat's statements: what the functions compute. No condition. -/
import Derived.Test.YtnenbopcoghmaaaC1N4
set_option linter.unusedSimpArgs false
set_option linter.unusedVariables false
namespace Go.Proofs.Ytnenbopcoghmaaa.Kt
open Go Kw Go.Proofs
attribute [local irreducible] Kw.GI Kw.GR Kw.FnR Kw.FnX
set_option maxHeartbeats 4000000
set_option maxRecDepth 100000
theorem pos_at {l : List Nr} {t : Int} {j : Nat} {x : Nr} (hx : l[j]? = some x) (hj : j ≤ pos l t) (h : ¬ x.id < t) : pos l t = j := by
  rcases Nat.lt_or_ge j (pos l t) with h1 | h1
  · exact absurd (pos_lt l t j x hx h1) h
  · omega
theorem pos_next : ∀ {l : List Nr} {t : Int} {j : Nat} {x : Nr}, l[j]? = some x → j ≤ pos l t → x.id < t → j + 1 ≤ pos l t
  | [], t, j, x, h, _, _ => by simp at h
  | y :: l, t, j, x, h, hj, hx => by
    have e2 : pos (y :: l) t = if y.id < t then pos l t + 1 else 0 := rfl
    rw [e2] at hj ⊢
    cases j with
    | zero => simp at h; subst h; rw [if_pos hx]; omega
    | succ j =>
      split at hj
      · rename_i hy
        simp at h
        have := pos_next (l := l) h (by omega) hx
        rw [if_pos hy]; omega
      · omega
theorem eN_eq {l : List Nr} {L : List (List RV)} (h : l.map Nr.row = L) : eN l = some ⟨47, 7, L, false⟩ := by subst h; rfl
theorem wsh {l : List Nr} {k : Nat} {y : Nr} (h : l[k]? = some y) (z : Nr) : ((l.take (k + 1) ++ z :: l.drop (k + 1)).set (k + 1) y) = l.take k ++ y :: l.drop k := by
  have hk := (List.getElem?_eq_some_iff.1 h).1
  have e1 : (l.take (k + 1)).length = k + 1 := by simp; omega
  rw [List.set_append_right _ _ (by omega), e1]
  simp only [Nat.sub_self, List.set_cons_zero]
  rw [List.take_add_one, h, List.append_assoc]
  congr 1
  rw [List.drop_eq_getElem_cons hk]
  simp [(List.getElem?_eq_some_iff.1 h).2]
theorem with_ok (l : List Nr) (x : Nr) (hl : l.length < 1000000) : FnX Try.prog 44 [.sl 0, x.av] [] [eN l] (RSN (putN l x)) := by
  refine fnX_intro (T := TT) (n := 67) Try.func44 rfl rfl rfl (fun w X Z Y B => ?_)
  (repeat (first | (refine r_end ?_) | (refine r_op ?_; first | refine r_pure hT rfl rfl rfl rfl rfl rfl ?_ | refine r_load hT rfl rfl rfl rfl rfl rfl rfl rfl rfl ?_ | refine r_box rfl rfl rfl rfl rfl rfl rfl rfl rfl ?_ | refine r_store hT rfl rfl rfl rfl rfl rfl rfl rfl rfl rfl ?_ | refine r_off rfl rfl rfl rfl rfl ?_ | refine r_alloc hT rfl rfl rfl rfl rfl rfl rfl rfl rfl ?_ | refine r_lit hT rfl rfl rfl rfl rfl rfl rfl rfl rfl rfl rfl rfl rfl ?_ | refine r_off0 rfl rfl rfl rfl ?_) | (refine gi_seq ?_) | (refine gi_plain ?_) | (refine gi_skip ?_) | (refine gi_block ?_) | (refine gi_inBlock ?_) | (refine gi_exit rfl ?_) | (refine gi_cnd ?_; first | refine gi_true rfl ?_ | refine gi_false rfl ?_) | (refine gi_label ?_)))
  refine gi_loop (σ := Nat) (fun j => [(5, I j), (0, .sl 0), (3, .box 0 0)]) (fun _ => [some (47, [I x.id, I x.addr, I x.prio, I x.dr, I x.bdr, Bo x.two, I x.left])]) (fun j => [eN l]) (fun j => j ≤ pos l x.id) (fun j => l.length - j) 0 (Nat.zero_le _) ⟨rfl, rfl, rfl, trivial⟩ ⟨rfl, trivial⟩ ⟨rfl, trivial⟩ (fun _ => rfl) (fun j hj next => ?_)
  have hpl := pos_le l x.id
  have hjp : j ≤ pos l x.id := hj
  have leave : (¬ j < l.length ∨ ∃ y, l[j]? = some y ∧ ¬ y.id < x.id) → pos l x.id = j := by
    rintro (h | ⟨y, hy, h⟩)
    · omega
    · exact pos_at hy hjp h
  apply gi_cut (σ := Unit) (fun _ => [(5, I j), (0, .sl 0), (3, .box 0 0)]) (fun _ => [some (47, [I x.id, I x.addr, I x.prio, I x.dr, I x.bdr, Bo x.two, I x.left])]) (fun _ => [eN l]) (fun _ => pos l x.id = j ∧ had l x.id = false) (fun _ => rfl)
  case first =>
    intro fin
    (repeat (first | (refine r_end ?_) | (refine r_op ?_; first | refine r_pure hT rfl rfl rfl rfl rfl rfl ?_ | refine r_load hT rfl rfl rfl rfl rfl rfl rfl rfl rfl ?_ | refine r_box rfl rfl rfl rfl rfl rfl rfl rfl rfl ?_ | refine r_store hT rfl rfl rfl rfl rfl rfl rfl rfl rfl rfl ?_ | refine r_off rfl rfl rfl rfl rfl ?_ | refine r_alloc hT rfl rfl rfl rfl rfl rfl rfl rfl rfl ?_ | refine r_lit hT rfl rfl rfl rfl rfl rfl rfl rfl rfl rfl rfl rfl rfl ?_ | refine r_off0 rfl rfl rfl rfl ?_) | (refine gi_seq ?_) | (refine gi_plain ?_) | (refine gi_skip ?_) | (refine gi_block ?_) | (refine gi_inBlock ?_) | (refine gi_exit rfl ?_) | (refine gi_cnd ?_; first | refine gi_true rfl ?_ | refine gi_false rfl ?_) | (refine gi_label ?_)))
    refine gi_draw [] [(0, .p), (1, .p), (2, .p), (3, .p), (4, .p), (5, .p), (6, .p), (7, .p), (8, .p), (10, .p), (9, .t), (11, .t), (12, .p), (13, .p)] hm rfl (by kernel_rfl) (fun w1 K => ?_)
    (repeat (first | (refine r_end ?_) | (refine r_op ?_; first | refine r_pure hT rfl rfl rfl rfl rfl rfl ?_ | refine r_load hT rfl rfl rfl rfl rfl rfl rfl rfl rfl ?_ | refine r_box rfl rfl rfl rfl rfl rfl rfl rfl rfl ?_ | refine r_store hT rfl rfl rfl rfl rfl rfl rfl rfl rfl rfl ?_ | refine r_off rfl rfl rfl rfl rfl ?_ | refine r_alloc hT rfl rfl rfl rfl rfl rfl rfl rfl rfl ?_ | refine r_lit hT rfl rfl rfl rfl rfl rfl rfl rfl rfl rfl rfl rfl rfl ?_ | refine r_off0 rfl rfl rfl rfl ?_) | (refine gi_seq ?_) | (refine gi_plain ?_) | (refine gi_skip ?_) | (refine gi_block ?_) | (refine gi_inBlock ?_) | (refine gi_exit rfl ?_) | (refine gi_cnd ?_; first | refine gi_true rfl ?_ | refine gi_false rfl ?_) | (refine gi_label ?_)))
    refine r_case (d := 11) rfl (fun h1 => ?_) (fun h1 => ?_)
    · rw [ltB_eq] at h1
      have hlt : j < l.length := by have := of_decide_eq_true h1; simp at this; omega
      obtain ⟨y, hy⟩ : ∃ y, l[j]? = some y := ⟨_, List.getElem?_eq_getElem hlt⟩
      (repeat (first | (refine r_end ?_) | (refine r_op ?_; first | refine r_pure hT rfl rfl rfl rfl rfl rfl ?_ | refine r_load hT rfl rfl rfl rfl rfl rfl rfl rfl rfl ?_ | refine r_box rfl rfl rfl rfl rfl rfl rfl rfl rfl ?_ | refine r_store hT rfl rfl rfl rfl rfl rfl rfl rfl rfl rfl ?_ | refine r_off rfl rfl rfl rfl rfl ?_ | refine r_alloc hT rfl rfl rfl rfl rfl rfl rfl rfl rfl ?_ | refine r_lit hT rfl rfl rfl rfl rfl rfl rfl rfl rfl rfl rfl rfl rfl ?_ | refine r_off0 rfl rfl rfl rfl ?_) | (refine gi_seq ?_) | (refine gi_plain ?_) | (refine gi_skip ?_) | (refine gi_block ?_) | (refine gi_inBlock ?_) | (refine gi_exit rfl ?_) | (refine gi_cnd ?_; first | refine gi_true rfl ?_ | refine gi_false rfl ?_) | (refine gi_label ?_)))
      refine r_idxS hT rfl rfl rfl rfl rfl rfl rfl rfl rfl rfl rfl rfl rfl (by (try dsimp only) <;> (try simp only [wrL, List.length_map, List.length_append, List.length_take, List.length_drop, List.length_replicate, List.length_cons, List.length_nil]) <;> omega) (by (try dsimp only) <;> (try simp only [wrL, List.length_map, List.length_append, List.length_take, List.length_drop, List.length_replicate, List.length_cons, List.length_nil]) <;> omega) ?_
      (repeat (first | (refine r_end ?_) | (refine r_op ?_; first | refine r_pure hT rfl rfl rfl rfl rfl rfl ?_ | refine r_load hT rfl rfl rfl rfl rfl rfl rfl rfl rfl ?_ | refine r_box rfl rfl rfl rfl rfl rfl rfl rfl rfl ?_ | refine r_store hT rfl rfl rfl rfl rfl rfl rfl rfl rfl rfl ?_ | refine r_off rfl rfl rfl rfl rfl ?_ | refine r_alloc hT rfl rfl rfl rfl rfl rfl rfl rfl rfl ?_ | refine r_lit hT rfl rfl rfl rfl rfl rfl rfl rfl rfl rfl rfl rfl rfl ?_ | refine r_off0 rfl rfl rfl rfl ?_) | (refine gi_seq ?_) | (refine gi_plain ?_) | (refine gi_skip ?_) | (refine gi_block ?_) | (refine gi_inBlock ?_) | (refine gi_exit rfl ?_) | (refine gi_cnd ?_; first | refine gi_true rfl ?_ | refine gi_false rfl ?_) | (refine gi_label ?_)))
      refine r_loadS (row := y.row) hT rfl rfl rfl rfl rfl rfl rfl rfl (by show (l.map Nr.row)[((j : Int)).toNat]? = _; rw [Int.toNat_natCast, List.getElem?_map, hy]; rfl) rfl rfl rfl ?_
      (repeat (first | (refine r_end ?_) | (refine r_op ?_; first | refine r_pure hT rfl rfl rfl rfl rfl rfl ?_ | refine r_load hT rfl rfl rfl rfl rfl rfl rfl rfl rfl ?_ | refine r_box rfl rfl rfl rfl rfl rfl rfl rfl rfl ?_ | refine r_store hT rfl rfl rfl rfl rfl rfl rfl rfl rfl rfl ?_ | refine r_off rfl rfl rfl rfl rfl ?_ | refine r_alloc hT rfl rfl rfl rfl rfl rfl rfl rfl rfl ?_ | refine r_lit hT rfl rfl rfl rfl rfl rfl rfl rfl rfl rfl rfl rfl rfl ?_ | refine r_off0 rfl rfl rfl rfl ?_) | (refine gi_seq ?_) | (refine gi_plain ?_) | (refine gi_skip ?_) | (refine gi_block ?_) | (refine gi_inBlock ?_) | (refine gi_exit rfl ?_) | (refine gi_cnd ?_; first | refine gi_true rfl ?_ | refine gi_false rfl ?_) | (refine gi_label ?_)))
      refine gi_lt rfl (fun h2 => ?_) (fun h2 => ?_)
      · (repeat (first | (refine r_end ?_) | (refine r_op ?_; first | refine r_pure hT rfl rfl rfl rfl rfl rfl ?_ | refine r_load hT rfl rfl rfl rfl rfl rfl rfl rfl rfl ?_ | refine r_box rfl rfl rfl rfl rfl rfl rfl rfl rfl ?_ | refine r_store hT rfl rfl rfl rfl rfl rfl rfl rfl rfl rfl ?_ | refine r_off rfl rfl rfl rfl rfl ?_ | refine r_alloc hT rfl rfl rfl rfl rfl rfl rfl rfl rfl ?_ | refine r_lit hT rfl rfl rfl rfl rfl rfl rfl rfl rfl rfl rfl rfl rfl ?_ | refine r_off0 rfl rfl rfl rfl ?_) | (refine gi_seq ?_) | (refine gi_plain ?_) | (refine gi_skip ?_) | (refine gi_block ?_) | (refine gi_inBlock ?_) | (refine gi_exit rfl ?_) | (refine gi_cnd ?_; first | refine gi_true rfl ?_ | refine gi_false rfl ?_) | (refine gi_label ?_)))
        refine next (j + 1) _ _ _ (pos_next hy hjp h2) (by omega) ⟨?_, rfl, rfl, trivial⟩ ⟨rfl, trivial⟩ ⟨rfl, trivial⟩
        show some (I (wr .i64 ((j : Int) + 1))) = _
        rw [wr_i64 (by omega) (by omega)]
        simp
      · have hpj := leave (.inr ⟨y, hy, h2⟩)
        have hhad := had_at l x.id
        rw [hpj, hy] at hhad
        (repeat (first | (refine r_end ?_) | (refine r_op ?_; first | refine r_pure hT rfl rfl rfl rfl rfl rfl ?_ | refine r_load hT rfl rfl rfl rfl rfl rfl rfl rfl rfl ?_ | refine r_box rfl rfl rfl rfl rfl rfl rfl rfl rfl ?_ | refine r_store hT rfl rfl rfl rfl rfl rfl rfl rfl rfl rfl ?_ | refine r_off rfl rfl rfl rfl rfl ?_ | refine r_alloc hT rfl rfl rfl rfl rfl rfl rfl rfl rfl ?_ | refine r_lit hT rfl rfl rfl rfl rfl rfl rfl rfl rfl rfl rfl rfl rfl ?_ | refine r_off0 rfl rfl rfl rfl ?_) | (refine gi_seq ?_) | (refine gi_plain ?_) | (refine gi_skip ?_) | (refine gi_block ?_) | (refine gi_inBlock ?_) | (refine gi_exit rfl ?_) | (refine gi_cnd ?_; first | refine gi_true rfl ?_ | refine gi_false rfl ?_) | (refine gi_label ?_)))
        refine gi_draw [] [(0, .p), (1, .p), (2, .p), (3, .p), (4, .p), (5, .p), (6, .p), (7, .p), (8, .p), (10, .p), (9, .t), (11, .t), (12, .p), (13, .p)] hm rfl (by kernel_rfl) (fun w1 K => ?_)
        (repeat (first | (refine r_end ?_) | (refine r_op ?_; first | refine r_pure hT rfl rfl rfl rfl rfl rfl ?_ | refine r_load hT rfl rfl rfl rfl rfl rfl rfl rfl rfl ?_ | refine r_box rfl rfl rfl rfl rfl rfl rfl rfl rfl ?_ | refine r_store hT rfl rfl rfl rfl rfl rfl rfl rfl rfl rfl ?_ | refine r_off rfl rfl rfl rfl rfl ?_ | refine r_alloc hT rfl rfl rfl rfl rfl rfl rfl rfl rfl ?_ | refine r_lit hT rfl rfl rfl rfl rfl rfl rfl rfl rfl rfl rfl rfl rfl ?_ | refine r_off0 rfl rfl rfl rfl ?_) | (refine gi_seq ?_) | (refine gi_plain ?_) | (refine gi_skip ?_) | (refine gi_block ?_) | (refine gi_inBlock ?_) | (refine gi_exit rfl ?_) | (refine gi_cnd ?_; first | refine gi_true rfl ?_ | refine gi_false rfl ?_) | (refine gi_label ?_)))
        refine r_known (d := 27) (b := true) rfl (by rw [ltB_eq]; exact h1) ?_
        (repeat (first | (refine r_end ?_) | (refine r_op ?_; first | refine r_pure hT rfl rfl rfl rfl rfl rfl ?_ | refine r_load hT rfl rfl rfl rfl rfl rfl rfl rfl rfl ?_ | refine r_box rfl rfl rfl rfl rfl rfl rfl rfl rfl ?_ | refine r_store hT rfl rfl rfl rfl rfl rfl rfl rfl rfl rfl ?_ | refine r_off rfl rfl rfl rfl rfl ?_ | refine r_alloc hT rfl rfl rfl rfl rfl rfl rfl rfl rfl ?_ | refine r_lit hT rfl rfl rfl rfl rfl rfl rfl rfl rfl rfl rfl rfl rfl ?_ | refine r_off0 rfl rfl rfl rfl ?_) | (refine gi_seq ?_) | (refine gi_plain ?_) | (refine gi_skip ?_) | (refine gi_block ?_) | (refine gi_inBlock ?_) | (refine gi_exit rfl ?_) | (refine gi_cnd ?_; first | refine gi_true rfl ?_ | refine gi_false rfl ?_) | (refine gi_label ?_)))
        refine r_idxS hT rfl rfl rfl rfl rfl rfl rfl rfl rfl rfl rfl rfl rfl (by (try dsimp only) <;> (try simp only [wrL, List.length_map, List.length_append, List.length_take, List.length_drop, List.length_replicate, List.length_cons, List.length_nil]) <;> omega) (by (try dsimp only) <;> (try simp only [wrL, List.length_map, List.length_append, List.length_take, List.length_drop, List.length_replicate, List.length_cons, List.length_nil]) <;> omega) ?_
        (repeat (first | (refine r_end ?_) | (refine r_op ?_; first | refine r_pure hT rfl rfl rfl rfl rfl rfl ?_ | refine r_load hT rfl rfl rfl rfl rfl rfl rfl rfl rfl ?_ | refine r_box rfl rfl rfl rfl rfl rfl rfl rfl rfl ?_ | refine r_store hT rfl rfl rfl rfl rfl rfl rfl rfl rfl rfl ?_ | refine r_off rfl rfl rfl rfl rfl ?_ | refine r_alloc hT rfl rfl rfl rfl rfl rfl rfl rfl rfl ?_ | refine r_lit hT rfl rfl rfl rfl rfl rfl rfl rfl rfl rfl rfl rfl rfl ?_ | refine r_off0 rfl rfl rfl rfl ?_) | (refine gi_seq ?_) | (refine gi_plain ?_) | (refine gi_skip ?_) | (refine gi_block ?_) | (refine gi_inBlock ?_) | (refine gi_exit rfl ?_) | (refine gi_cnd ?_; first | refine gi_true rfl ?_ | refine gi_false rfl ?_) | (refine gi_label ?_)))
        refine r_loadS (row := y.row) hT rfl rfl rfl rfl rfl rfl rfl rfl (by show (l.map Nr.row)[((j : Int)).toNat]? = _; rw [Int.toNat_natCast, List.getElem?_map, hy]; rfl) rfl rfl rfl ?_
        (repeat (first | (refine r_end ?_) | (refine r_op ?_; first | refine r_pure hT rfl rfl rfl rfl rfl rfl ?_ | refine r_load hT rfl rfl rfl rfl rfl rfl rfl rfl rfl ?_ | refine r_box rfl rfl rfl rfl rfl rfl rfl rfl rfl ?_ | refine r_store hT rfl rfl rfl rfl rfl rfl rfl rfl rfl rfl ?_ | refine r_off rfl rfl rfl rfl rfl ?_ | refine r_alloc hT rfl rfl rfl rfl rfl rfl rfl rfl rfl ?_ | refine r_lit hT rfl rfl rfl rfl rfl rfl rfl rfl rfl rfl rfl rfl rfl ?_ | refine r_off0 rfl rfl rfl rfl ?_) | (refine gi_seq ?_) | (refine gi_plain ?_) | (refine gi_skip ?_) | (refine gi_block ?_) | (refine gi_inBlock ?_) | (refine gi_exit rfl ?_) | (refine gi_cnd ?_; first | refine gi_true rfl ?_ | refine gi_false rfl ?_) | (refine gi_label ?_)))
        refine gi_eq rfl (fun h4 => ?_) (fun h4 => ?_)
        · (repeat (first | (refine r_end ?_) | (refine r_op ?_; first | refine r_pure hT rfl rfl rfl rfl rfl rfl ?_ | refine r_load hT rfl rfl rfl rfl rfl rfl rfl rfl rfl ?_ | refine r_box rfl rfl rfl rfl rfl rfl rfl rfl rfl ?_ | refine r_store hT rfl rfl rfl rfl rfl rfl rfl rfl rfl rfl ?_ | refine r_off rfl rfl rfl rfl rfl ?_ | refine r_alloc hT rfl rfl rfl rfl rfl rfl rfl rfl rfl ?_ | refine r_lit hT rfl rfl rfl rfl rfl rfl rfl rfl rfl rfl rfl rfl rfl ?_ | refine r_off0 rfl rfl rfl rfl ?_) | (refine gi_seq ?_) | (refine gi_plain ?_) | (refine gi_skip ?_) | (refine gi_block ?_) | (refine gi_inBlock ?_) | (refine gi_exit rfl ?_) | (refine gi_cnd ?_; first | refine gi_true rfl ?_ | refine gi_false rfl ?_) | (refine gi_label ?_)))
          refine r_idxS hT rfl rfl rfl rfl rfl rfl rfl rfl rfl rfl rfl rfl rfl (by (try dsimp only) <;> (try simp only [wrL, List.length_map, List.length_append, List.length_take, List.length_drop, List.length_replicate, List.length_cons, List.length_nil]) <;> omega) (by (try dsimp only) <;> (try simp only [wrL, List.length_map, List.length_append, List.length_take, List.length_drop, List.length_replicate, List.length_cons, List.length_nil]) <;> omega) ?_
          (repeat (first | (refine r_end ?_) | (refine r_op ?_; first | refine r_pure hT rfl rfl rfl rfl rfl rfl ?_ | refine r_load hT rfl rfl rfl rfl rfl rfl rfl rfl rfl ?_ | refine r_box rfl rfl rfl rfl rfl rfl rfl rfl rfl ?_ | refine r_store hT rfl rfl rfl rfl rfl rfl rfl rfl rfl rfl ?_ | refine r_off rfl rfl rfl rfl rfl ?_ | refine r_alloc hT rfl rfl rfl rfl rfl rfl rfl rfl rfl ?_ | refine r_lit hT rfl rfl rfl rfl rfl rfl rfl rfl rfl rfl rfl rfl rfl ?_ | refine r_off0 rfl rfl rfl rfl ?_) | (refine gi_seq ?_) | (refine gi_plain ?_) | (refine gi_skip ?_) | (refine gi_block ?_) | (refine gi_inBlock ?_) | (refine gi_exit rfl ?_) | (refine gi_cnd ?_; first | refine gi_true rfl ?_ | refine gi_false rfl ?_) | (refine gi_label ?_)))
          refine r_storeS (row := y.row) hT rfl rfl rfl rfl rfl rfl rfl rfl rfl rfl rfl rfl rfl (by show (l.map Nr.row)[((j : Int)).toNat]? = _; rw [Int.toNat_natCast, List.getElem?_map, hy]; rfl) ?_
          (repeat (first | (refine r_end ?_) | (refine r_op ?_; first | refine r_pure hT rfl rfl rfl rfl rfl rfl ?_ | refine r_load hT rfl rfl rfl rfl rfl rfl rfl rfl rfl ?_ | refine r_box rfl rfl rfl rfl rfl rfl rfl rfl rfl ?_ | refine r_store hT rfl rfl rfl rfl rfl rfl rfl rfl rfl rfl ?_ | refine r_off rfl rfl rfl rfl rfl ?_ | refine r_alloc hT rfl rfl rfl rfl rfl rfl rfl rfl rfl ?_ | refine r_lit hT rfl rfl rfl rfl rfl rfl rfl rfl rfl rfl rfl rfl rfl ?_ | refine r_off0 rfl rfl rfl rfl ?_) | (refine gi_seq ?_) | (refine gi_plain ?_) | (refine gi_skip ?_) | (refine gi_block ?_) | (refine gi_inBlock ?_) | (refine gi_exit rfl ?_) | (refine gi_cnd ?_; first | refine gi_true rfl ?_ | refine gi_false rfl ?_) | (refine gi_label ?_)))
          refine gi_retX hT Try.func44 rfl [] [0] rfl rfl rfl rfl rfl rfl rfl rfl ?_
          refine ⟨rfl, rfl, ?_⟩
          unfold putN
          rw [hhad, if_pos (by simpa using h4), hpj, List.map_set]
          rfl
        · (repeat (first | (refine r_end ?_) | (refine r_op ?_; first | refine r_pure hT rfl rfl rfl rfl rfl rfl ?_ | refine r_load hT rfl rfl rfl rfl rfl rfl rfl rfl rfl ?_ | refine r_box rfl rfl rfl rfl rfl rfl rfl rfl rfl ?_ | refine r_store hT rfl rfl rfl rfl rfl rfl rfl rfl rfl rfl ?_ | refine r_off rfl rfl rfl rfl rfl ?_ | refine r_alloc hT rfl rfl rfl rfl rfl rfl rfl rfl rfl ?_ | refine r_lit hT rfl rfl rfl rfl rfl rfl rfl rfl rfl rfl rfl rfl rfl ?_ | refine r_off0 rfl rfl rfl rfl ?_) | (refine gi_seq ?_) | (refine gi_plain_ne 7 rfl ?_) | (refine gi_skip ?_) | (refine gi_block ?_) | (refine gi_inBlock ?_) | (refine gi_exit rfl ?_) | (refine gi_cnd ?_; first | refine gi_true rfl ?_ | refine gi_false rfl ?_) | (refine gi_label ?_)))
          exact fin () _ _ _ ⟨hpj, by rw [hhad]; simpa using h4⟩ ⟨rfl, rfl, rfl, trivial⟩ ⟨rfl, trivial⟩ ⟨rfl, trivial⟩
    · have h1' := h1
      rw [ltB_eq] at h1
      have hlt : ¬ j < l.length := by have := of_decide_eq_false h1; simp at this; omega
      have hpj := leave (.inl hlt)
      have hhad := had_at l x.id
      rw [hpj, List.getElem?_eq_none (by omega)] at hhad
      (repeat (first | (refine r_end ?_) | (refine r_op ?_; first | refine r_pure hT rfl rfl rfl rfl rfl rfl ?_ | refine r_load hT rfl rfl rfl rfl rfl rfl rfl rfl rfl ?_ | refine r_box rfl rfl rfl rfl rfl rfl rfl rfl rfl ?_ | refine r_store hT rfl rfl rfl rfl rfl rfl rfl rfl rfl rfl ?_ | refine r_off rfl rfl rfl rfl rfl ?_ | refine r_alloc hT rfl rfl rfl rfl rfl rfl rfl rfl rfl ?_ | refine r_lit hT rfl rfl rfl rfl rfl rfl rfl rfl rfl rfl rfl rfl rfl ?_ | refine r_off0 rfl rfl rfl rfl ?_) | (refine gi_seq ?_) | (refine gi_plain ?_) | (refine gi_skip ?_) | (refine gi_block ?_) | (refine gi_inBlock ?_) | (refine gi_exit rfl ?_) | (refine gi_cnd ?_; first | refine gi_true rfl ?_ | refine gi_false rfl ?_) | (refine gi_label ?_)))
      refine gi_draw [] [(0, .p), (1, .p), (2, .p), (3, .p), (4, .p), (5, .p), (6, .p), (7, .p), (8, .p), (10, .p), (9, .t), (11, .t), (12, .p), (13, .p)] hm rfl (by kernel_rfl) (fun w1 K => ?_)
      (repeat (first | (refine r_end ?_) | (refine r_op ?_; first | refine r_pure hT rfl rfl rfl rfl rfl rfl ?_ | refine r_load hT rfl rfl rfl rfl rfl rfl rfl rfl rfl ?_ | refine r_box rfl rfl rfl rfl rfl rfl rfl rfl rfl ?_ | refine r_store hT rfl rfl rfl rfl rfl rfl rfl rfl rfl rfl ?_ | refine r_off rfl rfl rfl rfl rfl ?_ | refine r_alloc hT rfl rfl rfl rfl rfl rfl rfl rfl rfl ?_ | refine r_lit hT rfl rfl rfl rfl rfl rfl rfl rfl rfl rfl rfl rfl rfl ?_ | refine r_off0 rfl rfl rfl rfl ?_) | (refine gi_seq ?_) | (refine gi_plain ?_) | (refine gi_skip ?_) | (refine gi_block ?_) | (refine gi_inBlock ?_) | (refine gi_exit rfl ?_) | (refine gi_cnd ?_; first | refine gi_true rfl ?_ | refine gi_false rfl ?_) | (refine gi_label ?_)))
      refine r_known (d := 27) (b := false) rfl h1' ?_
      (repeat (first | (refine r_end ?_) | (refine r_op ?_; first | refine r_pure hT rfl rfl rfl rfl rfl rfl ?_ | refine r_load hT rfl rfl rfl rfl rfl rfl rfl rfl rfl ?_ | refine r_box rfl rfl rfl rfl rfl rfl rfl rfl rfl ?_ | refine r_store hT rfl rfl rfl rfl rfl rfl rfl rfl rfl rfl ?_ | refine r_off rfl rfl rfl rfl rfl ?_ | refine r_alloc hT rfl rfl rfl rfl rfl rfl rfl rfl rfl ?_ | refine r_lit hT rfl rfl rfl rfl rfl rfl rfl rfl rfl rfl rfl rfl rfl ?_ | refine r_off0 rfl rfl rfl rfl ?_) | (refine gi_seq ?_) | (refine gi_plain_ne 7 rfl ?_) | (refine gi_skip ?_) | (refine gi_block ?_) | (refine gi_inBlock ?_) | (refine gi_exit rfl ?_) | (refine gi_cnd ?_; first | refine gi_true rfl ?_ | refine gi_false rfl ?_) | (refine gi_label ?_)))
      exact fin () _ _ _ ⟨hpj, hhad⟩ ⟨rfl, rfl, rfl, trivial⟩ ⟨rfl, trivial⟩ ⟨rfl, trivial⟩
  case after =>
    intro _ hh
    obtain ⟨hpj, hhad⟩ := hh
    (repeat (first | (refine r_end ?_) | (refine r_op ?_; first | refine r_pure hT rfl rfl rfl rfl rfl rfl ?_ | refine r_load hT rfl rfl rfl rfl rfl rfl rfl rfl rfl ?_ | refine r_box rfl rfl rfl rfl rfl rfl rfl rfl rfl ?_ | refine r_store hT rfl rfl rfl rfl rfl rfl rfl rfl rfl rfl ?_ | refine r_off rfl rfl rfl rfl rfl ?_ | refine r_alloc hT rfl rfl rfl rfl rfl rfl rfl rfl rfl ?_ | refine r_lit hT rfl rfl rfl rfl rfl rfl rfl rfl rfl rfl rfl rfl rfl ?_ | refine r_off0 rfl rfl rfl rfl ?_) | (refine gi_seq ?_) | (refine gi_plain ?_) | (refine gi_skip ?_) | (refine gi_block ?_) | (refine gi_inBlock ?_) | (refine gi_exit rfl ?_) | (refine gi_cnd ?_; first | refine gi_true rfl ?_ | refine gi_false rfl ?_) | (refine gi_label ?_)))
    refine r_append hT rfl rfl rfl rfl rfl rfl rfl rfl rfl rfl rfl rfl rfl rfl rfl rfl rfl ?_ ?_
    · simp only [List.length_map, List.length_cons, List.length_nil, maxLen]
      constructor
      · omega
      · show _ * 56 ≤ _
        omega
    (repeat (first | (refine r_end ?_) | (refine r_op ?_; first | refine r_pure hT rfl rfl rfl rfl rfl rfl ?_ | refine r_load hT rfl rfl rfl rfl rfl rfl rfl rfl rfl ?_ | refine r_box rfl rfl rfl rfl rfl rfl rfl rfl rfl ?_ | refine r_store hT rfl rfl rfl rfl rfl rfl rfl rfl rfl rfl ?_ | refine r_off rfl rfl rfl rfl rfl ?_ | refine r_alloc hT rfl rfl rfl rfl rfl rfl rfl rfl rfl ?_ | refine r_lit hT rfl rfl rfl rfl rfl rfl rfl rfl rfl rfl rfl rfl rfl ?_ | refine r_off0 rfl rfl rfl rfl ?_) | (refine gi_seq ?_) | (refine gi_plain ?_) | (refine gi_skip ?_) | (refine gi_block ?_) | (refine gi_inBlock ?_) | (refine gi_exit rfl ?_) | (refine gi_cnd ?_; first | refine gi_true rfl ?_ | refine gi_false rfl ?_) | (refine gi_label ?_)))
    refine gi_loop (σ := Nat × Nr) (fun s => [(6, I s.1), (5, I j), (0, .sl 0), (3, .box 0 0)]) (fun _ => [some (47, [I x.id, I x.addr, I x.prio, I x.dr, I x.bdr, Bo x.two, I x.left])]) (fun s => [eN (l.take s.1 ++ s.2 :: l.drop s.1)]) (fun s => j ≤ s.1 ∧ s.1 ≤ l.length) (fun s => s.1) (l.length, ⟨0, 0, 0, 0, 0, false, 0⟩) ⟨by omega, Nat.le_refl _⟩ ⟨?_, rfl, rfl, rfl, trivial⟩ ⟨rfl, trivial⟩ ⟨?_, trivial⟩ (fun _ => rfl) (fun s hs next2 => ?_)
    · show some (I (wr .i64 (((l.map Nr.row ++ _).length : Int) - 1))) = _
      rw [wr_i64 (by (try dsimp only) <;> (try simp only [wrL, List.length_map, List.length_append, List.length_take, List.length_drop, List.length_replicate, List.length_cons, List.length_nil]) <;> omega) (by (try dsimp only) <;> (try simp only [wrL, List.length_map, List.length_append, List.length_take, List.length_drop, List.length_replicate, List.length_cons, List.length_nil]) <;> omega)]
      simp
    · rw [List.take_length, List.drop_length]
      exact eN_eq (by rw [List.map_append]; rfl)
    obtain ⟨n, z⟩ := s
    obtain ⟨hs1, hs2⟩ := hs
    simp only at hs1 hs2
    have hln : (l.take n ++ z :: l.drop n).length = l.length + 1 := ins_len hs2
    (repeat (first | (refine r_end ?_) | (refine r_op ?_; first | refine r_pure hT rfl rfl rfl rfl rfl rfl ?_ | refine r_load hT rfl rfl rfl rfl rfl rfl rfl rfl rfl ?_ | refine r_box rfl rfl rfl rfl rfl rfl rfl rfl rfl ?_ | refine r_store hT rfl rfl rfl rfl rfl rfl rfl rfl rfl rfl ?_ | refine r_off rfl rfl rfl rfl rfl ?_ | refine r_alloc hT rfl rfl rfl rfl rfl rfl rfl rfl rfl ?_ | refine r_lit hT rfl rfl rfl rfl rfl rfl rfl rfl rfl rfl rfl rfl rfl ?_ | refine r_off0 rfl rfl rfl rfl ?_) | (refine gi_seq ?_) | (refine gi_plain ?_) | (refine gi_skip ?_) | (refine gi_block ?_) | (refine gi_inBlock ?_) | (refine gi_exit rfl ?_) | (refine gi_cnd ?_; first | refine gi_true rfl ?_ | refine gi_false rfl ?_) | (refine gi_label ?_)))
    refine gi_lt rfl (fun h5 => ?_) (fun h5 => ?_)
    · simp only at h5
      obtain ⟨m, rfl⟩ : ∃ m, n = m + 1 := ⟨n - 1, by omega⟩
      obtain ⟨y, hy⟩ : ∃ y, l[m]? = some y := ⟨_, List.getElem?_eq_getElem (by omega)⟩
      have hy2 : (l.take (m + 1) ++ z :: l.drop (m + 1))[m]? = some y := by
        rw [List.getElem?_append_left (by simp; omega), List.getElem?_take, if_pos (by omega), hy]
      have hz2 : (l.take (m + 1) ++ z :: l.drop (m + 1))[m + 1]? = some z := by
        have e : (l.take (m + 1)).length = m + 1 := by simp; omega
        rw [List.getElem?_append_right (by omega), e]
        simp
      (repeat (first | (refine r_end ?_) | (refine r_op ?_; first | refine r_pure hT rfl rfl rfl rfl rfl rfl ?_ | refine r_load hT rfl rfl rfl rfl rfl rfl rfl rfl rfl ?_ | refine r_box rfl rfl rfl rfl rfl rfl rfl rfl rfl ?_ | refine r_store hT rfl rfl rfl rfl rfl rfl rfl rfl rfl rfl ?_ | refine r_off rfl rfl rfl rfl rfl ?_ | refine r_alloc hT rfl rfl rfl rfl rfl rfl rfl rfl rfl ?_ | refine r_lit hT rfl rfl rfl rfl rfl rfl rfl rfl rfl rfl rfl rfl rfl ?_ | refine r_off0 rfl rfl rfl rfl ?_) | (refine gi_seq ?_) | (refine gi_plain ?_) | (refine gi_skip ?_) | (refine gi_block ?_) | (refine gi_inBlock ?_) | (refine gi_exit rfl ?_) | (refine gi_cnd ?_; first | refine gi_true rfl ?_ | refine gi_false rfl ?_) | (refine gi_label ?_)))
      refine r_turn (d := 58) (y := I (m : Int)) rfl (by rw [wr_i64 (by simp only; omega) (by simp only; omega)]; simp) ?_
      refine r_idxS hT rfl rfl rfl rfl rfl rfl rfl rfl rfl rfl rfl rfl rfl (by (try dsimp only) <;> (try simp only [wrL, List.length_map, List.length_append, List.length_take, List.length_drop, List.length_replicate, List.length_cons, List.length_nil]) <;> omega) (by (try dsimp only) <;> (try simp only [wrL, List.length_map, List.length_append, List.length_take, List.length_drop, List.length_replicate, List.length_cons, List.length_nil, hln]) <;> omega) ?_
      (repeat (first | (refine r_end ?_) | (refine r_op ?_; first | refine r_pure hT rfl rfl rfl rfl rfl rfl ?_ | refine r_load hT rfl rfl rfl rfl rfl rfl rfl rfl rfl ?_ | refine r_box rfl rfl rfl rfl rfl rfl rfl rfl rfl ?_ | refine r_store hT rfl rfl rfl rfl rfl rfl rfl rfl rfl rfl ?_ | refine r_off rfl rfl rfl rfl rfl ?_ | refine r_alloc hT rfl rfl rfl rfl rfl rfl rfl rfl rfl ?_ | refine r_lit hT rfl rfl rfl rfl rfl rfl rfl rfl rfl rfl rfl rfl rfl ?_ | refine r_off0 rfl rfl rfl rfl ?_) | (refine gi_seq ?_) | (refine gi_plain ?_) | (refine gi_skip ?_) | (refine gi_block ?_) | (refine gi_inBlock ?_) | (refine gi_exit rfl ?_) | (refine gi_cnd ?_; first | refine gi_true rfl ?_ | refine gi_false rfl ?_) | (refine gi_label ?_)))
      refine r_loadS (row := y.row) hT rfl rfl rfl rfl rfl rfl rfl rfl (by show (List.map Nr.row _)[((m : Int)).toNat]? = _; rw [Int.toNat_natCast, List.getElem?_map, hy2]; rfl) rfl rfl rfl ?_
      (repeat (first | (refine r_end ?_) | (refine r_op ?_; first | refine r_pure hT rfl rfl rfl rfl rfl rfl ?_ | refine r_load hT rfl rfl rfl rfl rfl rfl rfl rfl rfl ?_ | refine r_box rfl rfl rfl rfl rfl rfl rfl rfl rfl ?_ | refine r_store hT rfl rfl rfl rfl rfl rfl rfl rfl rfl rfl ?_ | refine r_off rfl rfl rfl rfl rfl ?_ | refine r_alloc hT rfl rfl rfl rfl rfl rfl rfl rfl rfl ?_ | refine r_lit hT rfl rfl rfl rfl rfl rfl rfl rfl rfl rfl rfl rfl rfl ?_ | refine r_off0 rfl rfl rfl rfl ?_) | (refine gi_seq ?_) | (refine gi_plain ?_) | (refine gi_skip ?_) | (refine gi_block ?_) | (refine gi_inBlock ?_) | (refine gi_exit rfl ?_) | (refine gi_cnd ?_; first | refine gi_true rfl ?_ | refine gi_false rfl ?_) | (refine gi_label ?_)))
      refine r_idxS hT rfl rfl rfl rfl rfl rfl rfl rfl rfl rfl rfl rfl rfl (by (try dsimp only) <;> (try simp only [wrL, List.length_map, List.length_append, List.length_take, List.length_drop, List.length_replicate, List.length_cons, List.length_nil]) <;> omega) (by (try dsimp only) <;> (try simp only [wrL, List.length_map, List.length_append, List.length_take, List.length_drop, List.length_replicate, List.length_cons, List.length_nil, hln]) <;> omega) ?_
      (repeat (first | (refine r_end ?_) | (refine r_op ?_; first | refine r_pure hT rfl rfl rfl rfl rfl rfl ?_ | refine r_load hT rfl rfl rfl rfl rfl rfl rfl rfl rfl ?_ | refine r_box rfl rfl rfl rfl rfl rfl rfl rfl rfl ?_ | refine r_store hT rfl rfl rfl rfl rfl rfl rfl rfl rfl rfl ?_ | refine r_off rfl rfl rfl rfl rfl ?_ | refine r_alloc hT rfl rfl rfl rfl rfl rfl rfl rfl rfl ?_ | refine r_lit hT rfl rfl rfl rfl rfl rfl rfl rfl rfl rfl rfl rfl rfl ?_ | refine r_off0 rfl rfl rfl rfl ?_) | (refine gi_seq ?_) | (refine gi_plain ?_) | (refine gi_skip ?_) | (refine gi_block ?_) | (refine gi_inBlock ?_) | (refine gi_exit rfl ?_) | (refine gi_cnd ?_; first | refine gi_true rfl ?_ | refine gi_false rfl ?_) | (refine gi_label ?_)))
      refine r_storeS (row := z.row) hT rfl rfl rfl rfl rfl rfl rfl rfl rfl rfl rfl rfl rfl (by show (List.map Nr.row _)[(((m + 1 : Nat) : Int)).toNat]? = _; rw [Int.toNat_natCast, List.getElem?_map, hz2]; rfl) ?_
      (repeat (first | (refine r_end ?_) | (refine r_op ?_; first | refine r_pure hT rfl rfl rfl rfl rfl rfl ?_ | refine r_load hT rfl rfl rfl rfl rfl rfl rfl rfl rfl ?_ | refine r_box rfl rfl rfl rfl rfl rfl rfl rfl rfl ?_ | refine r_store hT rfl rfl rfl rfl rfl rfl rfl rfl rfl rfl ?_ | refine r_off rfl rfl rfl rfl rfl ?_ | refine r_alloc hT rfl rfl rfl rfl rfl rfl rfl rfl rfl ?_ | refine r_lit hT rfl rfl rfl rfl rfl rfl rfl rfl rfl rfl rfl rfl rfl ?_ | refine r_off0 rfl rfl rfl rfl ?_) | (refine gi_seq ?_) | (refine gi_plain ?_) | (refine gi_skip ?_) | (refine gi_block ?_) | (refine gi_inBlock ?_) | (refine gi_exit rfl ?_) | (refine gi_cnd ?_; first | refine gi_true rfl ?_ | refine gi_false rfl ?_) | (refine gi_label ?_)))
      refine next2 (m, y) _ _ _ ⟨by simp only; omega, by simp only; omega⟩ (by simp only; omega) ⟨?_, rfl, rfl, rfl, trivial⟩ ⟨rfl, trivial⟩ ⟨?_, trivial⟩
      · show some (I (wr .i64 (((m + 1 : Nat) : Int) - 1))) = _
        rw [wr_i64 (by omega) (by omega)]
        simp
      · exact eN_eq (by rw [← wsh hy z, List.map_set]; rfl)
    · have hnj : n = j := by simp only at h5; omega
      subst hnj
      have hz2 : (l.take n ++ z :: l.drop n)[n]? = some z := by
        have e : (l.take n).length = n := by simp; omega
        rw [List.getElem?_append_right (by omega), e]
        simp
      (repeat (first | (refine r_end ?_) | (refine r_op ?_; first | refine r_pure hT rfl rfl rfl rfl rfl rfl ?_ | refine r_load hT rfl rfl rfl rfl rfl rfl rfl rfl rfl ?_ | refine r_box rfl rfl rfl rfl rfl rfl rfl rfl rfl ?_ | refine r_store hT rfl rfl rfl rfl rfl rfl rfl rfl rfl rfl ?_ | refine r_off rfl rfl rfl rfl rfl ?_ | refine r_alloc hT rfl rfl rfl rfl rfl rfl rfl rfl rfl ?_ | refine r_lit hT rfl rfl rfl rfl rfl rfl rfl rfl rfl rfl rfl rfl rfl ?_ | refine r_off0 rfl rfl rfl rfl ?_) | (refine gi_seq ?_) | (refine gi_plain ?_) | (refine gi_skip ?_) | (refine gi_block ?_) | (refine gi_inBlock ?_) | (refine gi_exit rfl ?_) | (refine gi_cnd ?_; first | refine gi_true rfl ?_ | refine gi_false rfl ?_) | (refine gi_label ?_)))
      refine r_idxS hT rfl rfl rfl rfl rfl rfl rfl rfl rfl rfl rfl rfl rfl (by (try dsimp only) <;> (try simp only [wrL, List.length_map, List.length_append, List.length_take, List.length_drop, List.length_replicate, List.length_cons, List.length_nil]) <;> omega) (by (try dsimp only) <;> (try simp only [wrL, List.length_map, List.length_append, List.length_take, List.length_drop, List.length_replicate, List.length_cons, List.length_nil, hln]) <;> omega) ?_
      (repeat (first | (refine r_end ?_) | (refine r_op ?_; first | refine r_pure hT rfl rfl rfl rfl rfl rfl ?_ | refine r_load hT rfl rfl rfl rfl rfl rfl rfl rfl rfl ?_ | refine r_box rfl rfl rfl rfl rfl rfl rfl rfl rfl ?_ | refine r_store hT rfl rfl rfl rfl rfl rfl rfl rfl rfl rfl ?_ | refine r_off rfl rfl rfl rfl rfl ?_ | refine r_alloc hT rfl rfl rfl rfl rfl rfl rfl rfl rfl ?_ | refine r_lit hT rfl rfl rfl rfl rfl rfl rfl rfl rfl rfl rfl rfl rfl ?_ | refine r_off0 rfl rfl rfl rfl ?_) | (refine gi_seq ?_) | (refine gi_plain ?_) | (refine gi_skip ?_) | (refine gi_block ?_) | (refine gi_inBlock ?_) | (refine gi_exit rfl ?_) | (refine gi_cnd ?_; first | refine gi_true rfl ?_ | refine gi_false rfl ?_) | (refine gi_label ?_)))
      refine r_storeS (row := z.row) hT rfl rfl rfl rfl rfl rfl rfl rfl rfl rfl rfl rfl rfl (by show (List.map Nr.row _)[((n : Int)).toNat]? = _; rw [Int.toNat_natCast, List.getElem?_map, hz2]; rfl) ?_
      (repeat (first | (refine r_end ?_) | (refine r_op ?_; first | refine r_pure hT rfl rfl rfl rfl rfl rfl ?_ | refine r_load hT rfl rfl rfl rfl rfl rfl rfl rfl rfl ?_ | refine r_box rfl rfl rfl rfl rfl rfl rfl rfl rfl ?_ | refine r_store hT rfl rfl rfl rfl rfl rfl rfl rfl rfl rfl ?_ | refine r_off rfl rfl rfl rfl rfl ?_ | refine r_alloc hT rfl rfl rfl rfl rfl rfl rfl rfl rfl ?_ | refine r_lit hT rfl rfl rfl rfl rfl rfl rfl rfl rfl rfl rfl rfl rfl ?_ | refine r_off0 rfl rfl rfl rfl ?_) | (refine gi_seq ?_) | (refine gi_plain ?_) | (refine gi_skip ?_) | (refine gi_block ?_) | (refine gi_inBlock ?_) | (refine gi_exit rfl ?_) | (refine gi_cnd ?_; first | refine gi_true rfl ?_ | refine gi_false rfl ?_) | (refine gi_label ?_)))
      refine gi_retX hT Try.func44 rfl [] [0] rfl rfl rfl rfl rfl rfl rfl rfl ?_
      refine ⟨rfl, rfl, ?_⟩
      unfold putN
      rw [hhad, if_neg (by decide), hpj]
      have e : (l.take n).length = n := by simp; omega
      show [some (SE.mk _ _ ((List.map Nr.row _).set _ (setR z.row 0 x.row)) _)] = _
      rw [Int.toNat_natCast]
      have e2 : (l.take n ++ z :: l.drop n).set n x = l.take n ++ x :: l.drop n := by
        rw [List.set_append_right _ _ (by omega), e]
        simp
      rw [← e2, List.map_set]
      rfl
theorem ordered_ok (l : List Nr) (hl : l.length < 500000) : FnR Try.prog 43 [rsN l] (RSl (ris l)) := by
  refine fnR_intro (T := TT) (n := 18) Try.func43 rfl rfl rfl (fun w Z => ?_)
  (repeat (first | (refine r_end ?_) | (refine r_op ?_; first | refine r_pure hT rfl rfl rfl rfl rfl rfl ?_ | refine r_load hT rfl rfl rfl rfl rfl rfl rfl rfl rfl ?_ | refine r_box rfl rfl rfl rfl rfl rfl rfl rfl rfl ?_ | refine r_store hT rfl rfl rfl rfl rfl rfl rfl rfl rfl rfl ?_ | refine r_off rfl rfl rfl rfl rfl ?_ | refine r_alloc hT rfl rfl rfl rfl rfl rfl rfl rfl rfl ?_ | refine r_lit hT rfl rfl rfl rfl rfl rfl rfl rfl rfl rfl rfl rfl rfl ?_ | refine r_off0 rfl rfl rfl rfl ?_) | (refine gi_seq ?_) | (refine gi_plain ?_) | (refine gi_skip ?_) | (refine gi_block ?_) | (refine gi_inBlock ?_) | (refine gi_exit rfl ?_) | (refine gi_cnd ?_; first | refine gi_true rfl ?_ | refine gi_false rfl ?_) | (refine gi_label ?_)))
  refine gi_adopt (e := 47) (sz := 7) 3 rfl ?_
  refine gi_loop (σ := Nat) (fun j => [(4, I j), (0, rsN l), (3, .sl 0)]) (fun _ => []) (fun j => [eN (ris (l.take j))]) (fun j => j ≤ l.length) (fun j => l.length - j) 0 (Nat.zero_le _) ⟨rfl, rfl, rfl, trivial⟩ trivial ⟨rfl, trivial⟩ (fun _ => rfl) (fun j hj next => ?_)
  (repeat (first | (refine r_end ?_) | (refine r_op ?_; first | refine r_pure hT rfl rfl rfl rfl rfl rfl ?_ | refine r_load hT rfl rfl rfl rfl rfl rfl rfl rfl rfl ?_ | refine r_box rfl rfl rfl rfl rfl rfl rfl rfl rfl ?_ | refine r_store hT rfl rfl rfl rfl rfl rfl rfl rfl rfl rfl ?_ | refine r_off rfl rfl rfl rfl rfl ?_ | refine r_alloc hT rfl rfl rfl rfl rfl rfl rfl rfl rfl ?_ | refine r_lit hT rfl rfl rfl rfl rfl rfl rfl rfl rfl rfl rfl rfl rfl ?_ | refine r_off0 rfl rfl rfl rfl ?_) | (refine gi_seq ?_) | (refine gi_plain ?_) | (refine gi_skip ?_) | (refine gi_block ?_) | (refine gi_inBlock ?_) | (refine gi_exit rfl ?_) | (refine gi_cnd ?_; first | refine gi_true rfl ?_ | refine gi_false rfl ?_) | (refine gi_label ?_)))
  refine gi_lt rfl (fun h3 => ?_) (fun h3 => ?_)
  · have h3' : j < l.length := by rw [List.length_map] at h3; omega
    obtain ⟨x, hx⟩ : ∃ x, l[j]? = some x := ⟨_, List.getElem?_eq_getElem h3'⟩
    have hr := ris_len (l.take j)
    have hr2 : (l.take j).length ≤ l.length := by simp; omega
    (repeat (first | (refine r_end ?_) | (refine r_op ?_; first | refine r_pure hT rfl rfl rfl rfl rfl rfl ?_ | refine r_load hT rfl rfl rfl rfl rfl rfl rfl rfl rfl ?_ | refine r_box rfl rfl rfl rfl rfl rfl rfl rfl rfl ?_ | refine r_store hT rfl rfl rfl rfl rfl rfl rfl rfl rfl rfl ?_ | refine r_off rfl rfl rfl rfl rfl ?_ | refine r_alloc hT rfl rfl rfl rfl rfl rfl rfl rfl rfl ?_ | refine r_lit hT rfl rfl rfl rfl rfl rfl rfl rfl rfl rfl rfl rfl rfl ?_ | refine r_off0 rfl rfl rfl rfl ?_) | (refine gi_seq ?_) | (refine gi_plain ?_) | (refine gi_skip ?_) | (refine gi_block ?_) | (refine gi_inBlock ?_) | (refine gi_exit rfl ?_) | (refine gi_cnd ?_; first | refine gi_true rfl ?_ | refine gi_false rfl ?_) | (refine gi_label ?_)))
    refine r_idx (row := x.row) hT rfl rfl rfl rfl rfl rfl rfl rfl rfl rfl rfl rfl (by omega) (by simp [hx]) ?_
    (repeat (first | (refine r_end ?_) | (refine r_op ?_; first | refine r_pure hT rfl rfl rfl rfl rfl rfl ?_ | refine r_load hT rfl rfl rfl rfl rfl rfl rfl rfl rfl ?_ | refine r_box rfl rfl rfl rfl rfl rfl rfl rfl rfl ?_ | refine r_store hT rfl rfl rfl rfl rfl rfl rfl rfl rfl rfl ?_ | refine r_off rfl rfl rfl rfl rfl ?_ | refine r_alloc hT rfl rfl rfl rfl rfl rfl rfl rfl rfl ?_ | refine r_lit hT rfl rfl rfl rfl rfl rfl rfl rfl rfl rfl rfl rfl rfl ?_ | refine r_off0 rfl rfl rfl rfl ?_) | (refine gi_seq ?_) | (refine gi_plain ?_) | (refine gi_skip ?_) | (refine gi_block ?_) | (refine gi_inBlock ?_) | (refine gi_exit rfl ?_) | (refine gi_cnd ?_; first | refine gi_true rfl ?_ | refine gi_false rfl ?_) | (refine gi_label ?_)))
    refine r_callX [] [0] (with_ok (ris (l.take j)) x (by omega)) rfl rfl rfl rfl rfl rfl Try.func44 rfl rfl rfl rfl rfl rfl rfl pN ?_
    rintro r H1 S1 ⟨rfl, rfl, rfl⟩
    rw [← ris_take hx]
    (repeat (first | (refine r_end ?_) | (refine r_op ?_; first | refine r_pure hT rfl rfl rfl rfl rfl rfl ?_ | refine r_load hT rfl rfl rfl rfl rfl rfl rfl rfl rfl ?_ | refine r_box rfl rfl rfl rfl rfl rfl rfl rfl rfl ?_ | refine r_store hT rfl rfl rfl rfl rfl rfl rfl rfl rfl rfl ?_ | refine r_off rfl rfl rfl rfl rfl ?_ | refine r_alloc hT rfl rfl rfl rfl rfl rfl rfl rfl rfl ?_ | refine r_lit hT rfl rfl rfl rfl rfl rfl rfl rfl rfl rfl rfl rfl rfl ?_ | refine r_off0 rfl rfl rfl rfl ?_) | (refine gi_seq ?_) | (refine gi_plain ?_) | (refine gi_skip ?_) | (refine gi_block ?_) | (refine gi_inBlock ?_) | (refine gi_exit rfl ?_) | (refine gi_cnd ?_; first | refine gi_true rfl ?_ | refine gi_false rfl ?_) | (refine gi_label ?_)))
    refine gi_pick [] [1] rfl rfl rfl rfl rfl ?_
    refine next (j + 1) _ _ _ h3' (by omega) ⟨?_, rfl, rfl, trivial⟩ trivial ⟨rfl, trivial⟩
    show some (I (wr .i64 ((j : Int) + 1))) = _
    rw [wr_i64 (by omega) (by omega)]
    simp
  · have hj' : j ≤ l.length := hj
    have : j = l.length := by rw [List.length_map] at h3; omega
    subst this
    rw [List.take_length]
    (repeat (first | (refine r_end ?_) | (refine r_op ?_; first | refine r_pure hT rfl rfl rfl rfl rfl rfl ?_ | refine r_load hT rfl rfl rfl rfl rfl rfl rfl rfl rfl ?_ | refine r_box rfl rfl rfl rfl rfl rfl rfl rfl rfl ?_ | refine r_store hT rfl rfl rfl rfl rfl rfl rfl rfl rfl rfl ?_ | refine r_off rfl rfl rfl rfl rfl ?_ | refine r_alloc hT rfl rfl rfl rfl rfl rfl rfl rfl rfl ?_ | refine r_lit hT rfl rfl rfl rfl rfl rfl rfl rfl rfl rfl rfl rfl rfl ?_ | refine r_off0 rfl rfl rfl rfl ?_) | (refine gi_seq ?_) | (refine gi_plain ?_) | (refine gi_skip ?_) | (refine gi_block ?_) | (refine gi_inBlock ?_) | (refine gi_exit rfl ?_) | (refine gi_cnd ?_; first | refine gi_true rfl ?_ | refine gi_false rfl ?_) | (refine gi_label ?_)))
    refine gi_retW hT Try.func43 rfl rfl [0] rfl rfl rfl rfl ?_
    exact ⟨rfl, rfl⟩
end Go.Proofs.Ytnenbopcoghmaaa.Kt
