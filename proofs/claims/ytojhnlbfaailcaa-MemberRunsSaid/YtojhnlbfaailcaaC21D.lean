/- Part of the proofs of this seat's statements: what the functions compute. No condition. -/
import Derived.Test.YtojhnlbfaailcaaC21C
set_option linter.unusedSimpArgs false
set_option linter.unusedVariables false
namespace Go.Proofs.Ytojhnlbfaailcaa.Kt
open Go Kw Go.Proofs
attribute [local irreducible] Kw.GI Kw.GR Kw.FnR Kw.FnX
set_option maxHeartbeats 4000000
set_option maxRecDepth 100000
def repE (x : En) (o : Bool) : En := ⟨x.id, 58, if o then 58 else x.old, 0, x.next⟩
def rep : List En → Int → Bool → List En
  | [], g, o => [repE ⟨g, 0, 0, 0, 0⟩ o]
  | y :: l, g, o => if y.id < g then y :: rep l g o else if y.id = g then repE y o :: l else repE ⟨g, 0, 0, 0, 0⟩ o :: y :: l
def ins (l : List En) (g : Int) : List En := if had l g then l else l.take (pos l g) ++ ⟨g, 0, 0, 0, 0⟩ :: l.drop (pos l g)
theorem ins_cons (y : En) (l : List En) (g : Int) : ins (y :: l) g = if y.id < g then y :: ins l g else if y.id = g then y :: l else ⟨g, 0, 0, 0, 0⟩ :: y :: l := by
  have e1 : had (y :: l) g = if y.id < g then had l g else decide (y.id = g) := rfl
  have e2 : pos (y :: l) g = if y.id < g then pos l g + 1 else 0 := rfl
  unfold ins
  rw [e1, e2]
  by_cases h : y.id < g
  · simp only [if_pos h]
    split
    · rfl
    · simp
  · simp only [if_neg h]
    by_cases h2 : y.id = g
    · simp [h2]
    · simp [h2]
theorem ins_at : ∀ (l : List En) (g : Int) (o : Bool), ∃ x, (ins l g)[pos l g]? = some x ∧ x.id = g ∧ rep l g o = (ins l g).set (pos l g) (repE x o)
  | [], g, o => ⟨⟨g, 0, 0, 0, 0⟩, rfl, rfl, rfl⟩
  | y :: l, g, o => by
    obtain ⟨x, h1, h2, h3⟩ := ins_at l g o
    have e2 : pos (y :: l) g = if y.id < g then pos l g + 1 else 0 := rfl
    rw [ins_cons, e2]
    unfold rep
    by_cases h : y.id < g
    · rw [if_pos h, if_pos h, if_pos h]
      exact ⟨x, by rw [List.getElem?_cons_succ]; exact h1, h2, by rw [h3, List.set_cons_succ]⟩
    · rw [if_neg h, if_neg h, if_neg h]
      by_cases h4 : y.id = g
      · rw [if_pos h4, if_pos h4]
        exact ⟨y, rfl, h4, rfl⟩
      · rw [if_neg h4, if_neg h4]
        exact ⟨⟨g, 0, 0, 0, 0⟩, rfl, rfl, rfl⟩
theorem ins_len' (l : List En) (g : Int) : (ins l g).length ≤ l.length + 1 := by
  unfold ins
  split
  · omega
  · rw [ins_len (pos_le _ _)]; exact Nat.le_refl _
theorem rep_len (l : List En) (g : Int) (o : Bool) : (rep l g o).length ≤ l.length + 1 := by
  obtain ⟨x, _, _, h⟩ := ins_at l g o
  rw [h, List.length_set]
  exact ins_len' l g
theorem rep_mem : ∀ (l : List En) (g : Int) (o : Bool) (z : En), z ∈ rep l g o → z.id = g ∨ z ∈ l
  | [], g, o, z, h => by
    unfold rep at h
    rw [List.mem_singleton.1 h]; exact .inl rfl
  | y :: l, g, o, z, h => by
    unfold rep at h
    split at h
    · rcases List.mem_cons.1 h with rfl | h
      · exact .inr (by simp)
      · rcases rep_mem l g o z h with h | h
        · exact .inl h
        · exact .inr (by simp [h])
    · split at h
      · rename_i h1 h2
        rcases List.mem_cons.1 h with rfl | h
        · exact .inl h2
        · exact .inr (by simp [h])
      · rcases List.mem_cons.1 h with rfl | h
        · exact .inl rfl
        · exact .inr h
theorem rep_srt : ∀ (l : List En) (g : Int) (o : Bool), Srt l → Srt (rep l g o)
  | [], g, o, _ => by unfold rep Srt; exact List.pairwise_singleton _ _
  | y :: l, g, o, h => by
    unfold Srt at h
    rw [List.pairwise_cons] at h
    unfold rep
    split
    · rename_i hy
      unfold Srt
      rw [List.pairwise_cons]
      refine ⟨fun z hz => ?_, rep_srt l g o h.2⟩
      rcases rep_mem l g o z hz with e | hz
      · omega
      · exact h.1 z hz
    · split
      · rename_i h1 h2
        unfold Srt
        rw [List.pairwise_cons]
        exact ⟨fun z hz => h.1 z hz, h.2⟩
      · rename_i h1 h2
        unfold Srt
        rw [List.pairwise_cons, List.pairwise_cons]
        refine ⟨fun z hz => ?_, h⟩
        rcases List.mem_cons.1 hz with rfl | hz
        · show g < z.id; omega
        · have := h.1 z hz; show g < z.id; omega
theorem Report_ok (l : List En) (g : Int) (o : Bool) (hl : l.length < 1000000) (hs : Srt l) : FnX Try.prog 11 [.box 0 0, I g, Bo o] [hT1 0] [eE l] (fun r H S => r = .tup [] ∧ H = [hT1 0] ∧ S = [eE (rep l g o)]) := by
  obtain ⟨x, hx1, hx2, hx3⟩ := ins_at l g o
  have hlen := ins_len' l g
  have hpi := (List.getElem?_eq_some_iff.1 hx1).1
  refine fnX_intro (T := TT) (n := 52) Try.func11 rfl rfl rfl (fun w X Z Y B => ?_)
  (repeat (first | (refine r_end ?_) | (refine r_op ?_; first | refine r_pure hT rfl rfl rfl rfl rfl rfl ?_ | refine r_load hT rfl rfl rfl rfl rfl rfl rfl rfl rfl ?_ | refine r_box rfl rfl rfl rfl rfl rfl rfl rfl rfl ?_ | refine r_store hT rfl rfl rfl rfl rfl rfl rfl rfl rfl rfl ?_ | refine r_off rfl rfl rfl rfl rfl ?_ | refine r_alloc hT rfl rfl rfl rfl rfl rfl rfl rfl rfl ?_ | refine r_lit hT rfl rfl rfl rfl rfl rfl rfl rfl rfl rfl rfl rfl rfl ?_ | refine r_off0 rfl rfl rfl rfl ?_) | (refine gi_seq ?_) | (refine gi_plain ?_) | (refine gi_skip ?_) | (refine gi_block ?_) | (refine gi_inBlock ?_) | (refine gi_exit rfl ?_) | (refine gi_cnd ?_; first | refine gi_true rfl ?_ | refine gi_false rfl ?_) | (refine gi_label ?_)))
  refine r_callX [0] [0] (mfind_ok l g (by omega) hs) rfl rfl rfl rfl rfl rfl Try.func24 rfl rfl rfl rfl rfl rfl rfl (pT rfl (sS1 _)) ?_
  rintro r H1 S1 ⟨rfl, rfl, rfl⟩
  (repeat (first | (refine r_end ?_) | (refine r_op ?_; first | refine r_pure hT rfl rfl rfl rfl rfl rfl ?_ | refine r_load hT rfl rfl rfl rfl rfl rfl rfl rfl rfl ?_ | refine r_box rfl rfl rfl rfl rfl rfl rfl rfl rfl ?_ | refine r_store hT rfl rfl rfl rfl rfl rfl rfl rfl rfl rfl ?_ | refine r_off rfl rfl rfl rfl rfl ?_ | refine r_alloc hT rfl rfl rfl rfl rfl rfl rfl rfl rfl ?_ | refine r_lit hT rfl rfl rfl rfl rfl rfl rfl rfl rfl rfl rfl rfl rfl ?_ | refine r_off0 rfl rfl rfl rfl ?_) | (refine gi_seq ?_) | (refine gi_plain ?_) | (refine gi_skip ?_) | (refine gi_block ?_) | (refine gi_inBlock ?_) | (refine gi_exit rfl ?_) | (refine gi_cnd ?_; first | refine gi_true rfl ?_ | refine gi_false rfl ?_) | (refine gi_label ?_)))
  apply gi_cut (σ := Unit) (fun _ => [(6, I (pos l g)), (0, .box 0 0), (2, Bo o)]) (fun _ => [hT1 0]) (fun _ => [eE (ins l g)]) (fun _ => True) (fun _ => rfl)
  case first =>
    intro fin
    refine gi_cond rfl (fun h1 => ?_) (fun h1 => ?_)
    · have h1' : had l g = false := by rw [notB_eq] at h1; simpa using h1
      have hi : l.take (pos l g) ++ (⟨g, 0, 0, 0, 0⟩ : En) :: l.drop (pos l g) = ins l g := by unfold ins; rw [h1', if_neg (by decide)]
      (repeat (first | (refine r_end ?_) | (refine r_op ?_; first | refine r_pure hT rfl rfl rfl rfl rfl rfl ?_ | refine r_load hT rfl rfl rfl rfl rfl rfl rfl rfl rfl ?_ | refine r_box rfl rfl rfl rfl rfl rfl rfl rfl rfl ?_ | refine r_store hT rfl rfl rfl rfl rfl rfl rfl rfl rfl rfl ?_ | refine r_off rfl rfl rfl rfl rfl ?_ | refine r_alloc hT rfl rfl rfl rfl rfl rfl rfl rfl rfl ?_ | refine r_lit hT rfl rfl rfl rfl rfl rfl rfl rfl rfl rfl rfl rfl rfl ?_ | refine r_off0 rfl rfl rfl rfl ?_) | (refine gi_seq ?_) | (refine gi_plain ?_) | (refine gi_skip ?_) | (refine gi_block ?_) | (refine gi_inBlock ?_) | (refine gi_exit rfl ?_) | (refine gi_cnd ?_; first | refine gi_true rfl ?_ | refine gi_false rfl ?_) | (refine gi_label ?_)))
      refine r_callX [] [1, 2] (Insert_ok l ⟨g, 0, 0, 0, 0⟩ (pos l g) (by omega) (pos_le _ _)) rfl rfl rfl rfl rfl rfl Try.func25 rfl rfl rfl rfl rfl rfl rfl pE ?_
      rintro r H1 S1 ⟨rfl, rfl, rfl⟩
      rw [hi]
      (repeat (first | (refine r_end ?_) | (refine r_op ?_; first | refine r_pure hT rfl rfl rfl rfl rfl rfl ?_ | refine r_load hT rfl rfl rfl rfl rfl rfl rfl rfl rfl ?_ | refine r_box rfl rfl rfl rfl rfl rfl rfl rfl rfl ?_ | refine r_store hT rfl rfl rfl rfl rfl rfl rfl rfl rfl rfl ?_ | refine r_off rfl rfl rfl rfl rfl ?_ | refine r_alloc hT rfl rfl rfl rfl rfl rfl rfl rfl rfl ?_ | refine r_lit hT rfl rfl rfl rfl rfl rfl rfl rfl rfl rfl rfl rfl rfl ?_ | refine r_off0 rfl rfl rfl rfl ?_) | (refine gi_seq ?_) | (refine gi_plain ?_) | (refine gi_skip ?_) | (refine gi_block ?_) | (refine gi_inBlock ?_) | (refine gi_exit rfl ?_) | (refine gi_cnd ?_; first | refine gi_true rfl ?_ | refine gi_false rfl ?_) | (refine gi_label ?_)))
      refine gi_pick [0] [3] rfl rfl rfl rfl rfl ?_
      exact fin () _ _ _ trivial ⟨rfl, rfl, rfl, trivial⟩ ⟨rfl, trivial⟩ ⟨rfl, trivial⟩
    · have h1' : had l g = true := by rw [notB_eq] at h1; simpa using h1
      have hi : l = ins l g := by unfold ins; rw [if_pos h1']
      (repeat (first | (refine r_end ?_) | (refine r_op ?_; first | refine r_pure hT rfl rfl rfl rfl rfl rfl ?_ | refine r_load hT rfl rfl rfl rfl rfl rfl rfl rfl rfl ?_ | refine r_box rfl rfl rfl rfl rfl rfl rfl rfl rfl ?_ | refine r_store hT rfl rfl rfl rfl rfl rfl rfl rfl rfl rfl ?_ | refine r_off rfl rfl rfl rfl rfl ?_ | refine r_alloc hT rfl rfl rfl rfl rfl rfl rfl rfl rfl ?_ | refine r_lit hT rfl rfl rfl rfl rfl rfl rfl rfl rfl rfl rfl rfl rfl ?_ | refine r_off0 rfl rfl rfl rfl ?_) | (refine gi_seq ?_) | (refine gi_plain ?_) | (refine gi_skip ?_) | (refine gi_block ?_) | (refine gi_inBlock ?_) | (refine gi_exit rfl ?_) | (refine gi_cnd ?_; first | refine gi_true rfl ?_ | refine gi_false rfl ?_) | (refine gi_label ?_)))
      refine gi_pick [0] [1] rfl rfl rfl rfl rfl ?_
      exact fin () _ _ _ trivial ⟨rfl, rfl, rfl, trivial⟩ ⟨rfl, trivial⟩ ⟨by rw [← hi], trivial⟩
  case after =>
    intro _ _
    refine gi_drawM [12, 15] [(0, .p), (1, .p), (2, .p), (4, .p), (5, .p), (6, .p), (7, .p), (9, .p), (3, .t), (8, .t), (10, .p), (11, .p), (12, .l), (13, .p), (14, .p), (15, .l)] [0, 1, 2, 4, 0, 0, 32, 64, 128, 0, 287, 1311, 2335, 8191, 16383, 24575] [0, 1, 2, 4, 0, 0, 32, 64, 128, 0, 24, 1024, 2048, 768, 8192, 16384] hm rfl (by kernel_rfl) (fun w1 K => ?_)
    (repeat (first | (refine r_end ?_) | (refine r_op ?_; first | refine r_pure hT rfl rfl rfl rfl rfl rfl ?_ | refine r_load hT rfl rfl rfl rfl rfl rfl rfl rfl rfl ?_ | refine r_box rfl rfl rfl rfl rfl rfl rfl rfl rfl ?_ | refine r_store hT rfl rfl rfl rfl rfl rfl rfl rfl rfl rfl ?_ | refine r_off rfl rfl rfl rfl rfl ?_ | refine r_alloc hT rfl rfl rfl rfl rfl rfl rfl rfl rfl ?_ | refine r_lit hT rfl rfl rfl rfl rfl rfl rfl rfl rfl rfl rfl rfl rfl ?_ | refine r_off0 rfl rfl rfl rfl ?_) | (refine gi_seq ?_) | (refine gi_plain ?_) | (refine gi_skip ?_) | (refine gi_block ?_) | (refine gi_inBlock ?_) | (refine gi_exit rfl ?_) | (refine gi_cnd ?_; first | refine gi_true rfl ?_ | refine gi_false rfl ?_) | (refine gi_label ?_)))
    refine r_idxS hT rfl rfl rfl rfl rfl rfl rfl rfl rfl rfl rfl rfl rfl (by omega) (by rw [List.length_map]; omega) ?_
    (repeat (first | (refine r_end ?_) | (refine r_op ?_; first | refine r_pure hT rfl rfl rfl rfl rfl rfl ?_ | refine r_load hT rfl rfl rfl rfl rfl rfl rfl rfl rfl ?_ | refine r_box rfl rfl rfl rfl rfl rfl rfl rfl rfl ?_ | refine r_store hT rfl rfl rfl rfl rfl rfl rfl rfl rfl rfl ?_ | refine r_off rfl rfl rfl rfl rfl ?_ | refine r_alloc hT rfl rfl rfl rfl rfl rfl rfl rfl rfl ?_ | refine r_lit hT rfl rfl rfl rfl rfl rfl rfl rfl rfl rfl rfl rfl rfl ?_ | refine r_off0 rfl rfl rfl rfl ?_) | (refine gi_seq ?_) | (refine gi_plain ?_) | (refine gi_skip ?_) | (refine gi_block ?_) | (refine gi_inBlock ?_) | (refine gi_exit rfl ?_) | (refine gi_cnd ?_; first | refine gi_true rfl ?_ | refine gi_false rfl ?_) | (refine gi_label ?_)))
    refine r_storeS (row := x.row) hT rfl rfl rfl rfl rfl rfl rfl rfl rfl rfl rfl rfl rfl (by show (List.map En.row _)[((pos l g : Nat) : Int).toNat]? = _; rw [Int.toNat_natCast, List.getElem?_map, hx1]; rfl) ?_
    (repeat (first | (refine r_end ?_) | (refine r_op ?_; first | refine r_pure hT rfl rfl rfl rfl rfl rfl ?_ | refine r_load hT rfl rfl rfl rfl rfl rfl rfl rfl rfl ?_ | refine r_box rfl rfl rfl rfl rfl rfl rfl rfl rfl ?_ | refine r_store hT rfl rfl rfl rfl rfl rfl rfl rfl rfl rfl ?_ | refine r_off rfl rfl rfl rfl rfl ?_ | refine r_alloc hT rfl rfl rfl rfl rfl rfl rfl rfl rfl ?_ | refine r_lit hT rfl rfl rfl rfl rfl rfl rfl rfl rfl rfl rfl rfl rfl ?_ | refine r_off0 rfl rfl rfl rfl ?_) | (refine gi_seq ?_) | (refine gi_plain ?_) | (refine gi_skip ?_) | (refine gi_block ?_) | (refine gi_inBlock ?_) | (refine gi_exit rfl ?_) | (refine gi_cnd ?_; first | refine gi_true rfl ?_ | refine gi_false rfl ?_) | (refine gi_label ?_)))
    refine r_idxS hT rfl rfl rfl rfl rfl rfl rfl rfl rfl rfl rfl rfl rfl (by omega) (by rw [List.length_set, List.length_map]; omega) ?_
    (repeat (first | (refine r_end ?_) | (refine r_op ?_; first | refine r_pure hT rfl rfl rfl rfl rfl rfl ?_ | refine r_load hT rfl rfl rfl rfl rfl rfl rfl rfl rfl ?_ | refine r_box rfl rfl rfl rfl rfl rfl rfl rfl rfl ?_ | refine r_store hT rfl rfl rfl rfl rfl rfl rfl rfl rfl rfl ?_ | refine r_off rfl rfl rfl rfl rfl ?_ | refine r_alloc hT rfl rfl rfl rfl rfl rfl rfl rfl rfl ?_ | refine r_lit hT rfl rfl rfl rfl rfl rfl rfl rfl rfl rfl rfl rfl rfl ?_ | refine r_off0 rfl rfl rfl rfl ?_) | (refine gi_seq ?_) | (refine gi_plain ?_) | (refine gi_skip ?_) | (refine gi_block ?_) | (refine gi_inBlock ?_) | (refine gi_exit rfl ?_) | (refine gi_cnd ?_; first | refine gi_true rfl ?_ | refine gi_false rfl ?_) | (refine gi_label ?_)))
    refine r_storeS (row := En.row ⟨x.id, 58, x.old, x.asked, x.next⟩) hT rfl rfl rfl rfl rfl rfl rfl rfl rfl rfl rfl rfl rfl (by show (List.set (List.map En.row _) ((pos l g : Nat) : Int).toNat _)[((pos l g : Nat) : Int).toNat]? = _; rw [Int.toNat_natCast, List.getElem?_set_self (by rw [List.length_map]; omega)]; rfl) ?_
    (repeat (first | (refine r_end ?_) | (refine r_op ?_; first | refine r_pure hT rfl rfl rfl rfl rfl rfl ?_ | refine r_load hT rfl rfl rfl rfl rfl rfl rfl rfl rfl ?_ | refine r_box rfl rfl rfl rfl rfl rfl rfl rfl rfl ?_ | refine r_store hT rfl rfl rfl rfl rfl rfl rfl rfl rfl rfl ?_ | refine r_off rfl rfl rfl rfl rfl ?_ | refine r_alloc hT rfl rfl rfl rfl rfl rfl rfl rfl rfl ?_ | refine r_lit hT rfl rfl rfl rfl rfl rfl rfl rfl rfl rfl rfl rfl rfl ?_ | refine r_off0 rfl rfl rfl rfl ?_) | (refine gi_seq ?_) | (refine gi_plain ?_) | (refine gi_skip ?_) | (refine gi_block ?_) | (refine gi_inBlock ?_) | (refine gi_exit rfl ?_) | (refine gi_cnd ?_; first | refine gi_true rfl ?_ | refine gi_false rfl ?_) | (refine gi_label ?_)))
    refine gi_cond rfl (fun h1 => ?_) (fun h1 => ?_)
    · subst h1
      (repeat (first | (refine r_end ?_) | (refine r_op ?_; first | refine r_pure hT rfl rfl rfl rfl rfl rfl ?_ | refine r_load hT rfl rfl rfl rfl rfl rfl rfl rfl rfl ?_ | refine r_box rfl rfl rfl rfl rfl rfl rfl rfl rfl ?_ | refine r_store hT rfl rfl rfl rfl rfl rfl rfl rfl rfl rfl ?_ | refine r_off rfl rfl rfl rfl rfl ?_ | refine r_alloc hT rfl rfl rfl rfl rfl rfl rfl rfl rfl ?_ | refine r_lit hT rfl rfl rfl rfl rfl rfl rfl rfl rfl rfl rfl rfl rfl ?_ | refine r_off0 rfl rfl rfl rfl ?_) | (refine gi_seq ?_) | (refine gi_plain ?_) | (refine gi_skip ?_) | (refine gi_block ?_) | (refine gi_inBlock ?_) | (refine gi_exit rfl ?_) | (refine gi_cnd ?_; first | refine gi_true rfl ?_ | refine gi_false rfl ?_) | (refine gi_label ?_)))
      refine r_idxS hT rfl rfl rfl rfl rfl rfl rfl rfl rfl rfl rfl rfl rfl (by omega) (by rw [List.length_set, List.length_set, List.length_map]; omega) ?_
      (repeat (first | (refine r_end ?_) | (refine r_op ?_; first | refine r_pure hT rfl rfl rfl rfl rfl rfl ?_ | refine r_load hT rfl rfl rfl rfl rfl rfl rfl rfl rfl ?_ | refine r_box rfl rfl rfl rfl rfl rfl rfl rfl rfl ?_ | refine r_store hT rfl rfl rfl rfl rfl rfl rfl rfl rfl rfl ?_ | refine r_off rfl rfl rfl rfl rfl ?_ | refine r_alloc hT rfl rfl rfl rfl rfl rfl rfl rfl rfl ?_ | refine r_lit hT rfl rfl rfl rfl rfl rfl rfl rfl rfl rfl rfl rfl rfl ?_ | refine r_off0 rfl rfl rfl rfl ?_) | (refine gi_seq ?_) | (refine gi_plain ?_) | (refine gi_skip ?_) | (refine gi_block ?_) | (refine gi_inBlock ?_) | (refine gi_exit rfl ?_) | (refine gi_cnd ?_; first | refine gi_true rfl ?_ | refine gi_false rfl ?_) | (refine gi_label ?_)))
      refine r_storeS (row := En.row ⟨x.id, 58, x.old, 0, x.next⟩) hT rfl rfl rfl rfl rfl rfl rfl rfl rfl rfl rfl rfl rfl (by show (List.set (List.set (List.map En.row _) ((pos l g : Nat) : Int).toNat _) ((pos l g : Nat) : Int).toNat _)[((pos l g : Nat) : Int).toNat]? = _; rw [Int.toNat_natCast, List.getElem?_set_self (by rw [List.length_set, List.length_map]; omega)]; rfl) ?_
      (repeat (first | (refine r_end ?_) | (refine r_op ?_; first | refine r_pure hT rfl rfl rfl rfl rfl rfl ?_ | refine r_load hT rfl rfl rfl rfl rfl rfl rfl rfl rfl ?_ | refine r_box rfl rfl rfl rfl rfl rfl rfl rfl rfl ?_ | refine r_store hT rfl rfl rfl rfl rfl rfl rfl rfl rfl rfl ?_ | refine r_off rfl rfl rfl rfl rfl ?_ | refine r_alloc hT rfl rfl rfl rfl rfl rfl rfl rfl rfl ?_ | refine r_lit hT rfl rfl rfl rfl rfl rfl rfl rfl rfl rfl rfl rfl rfl ?_ | refine r_off0 rfl rfl rfl rfl ?_) | (refine gi_seq ?_) | (refine gi_plain ?_) | (refine gi_skip ?_) | (refine gi_block ?_) | (refine gi_inBlock ?_) | (refine gi_exit rfl ?_) | (refine gi_cnd ?_; first | refine gi_true rfl ?_ | refine gi_false rfl ?_) | (refine gi_label ?_)))
      refine gi_finX hT Try.func11 rfl [0] [0] rfl rfl rfl rfl rfl rfl rfl rfl ?_
      refine ⟨rfl, rfl, ?_⟩
      refine congrArg (fun L => [L]) (eE_eq ?_).symm
      rw [hx3, List.map_set]
      simp only [Int.toNat_natCast, List.set_set]
      rfl
    · subst h1
      (repeat (first | (refine r_end ?_) | (refine r_op ?_; first | refine r_pure hT rfl rfl rfl rfl rfl rfl ?_ | refine r_load hT rfl rfl rfl rfl rfl rfl rfl rfl rfl ?_ | refine r_box rfl rfl rfl rfl rfl rfl rfl rfl rfl ?_ | refine r_store hT rfl rfl rfl rfl rfl rfl rfl rfl rfl rfl ?_ | refine r_off rfl rfl rfl rfl rfl ?_ | refine r_alloc hT rfl rfl rfl rfl rfl rfl rfl rfl rfl ?_ | refine r_lit hT rfl rfl rfl rfl rfl rfl rfl rfl rfl rfl rfl rfl rfl ?_ | refine r_off0 rfl rfl rfl rfl ?_) | (refine gi_seq ?_) | (refine gi_plain ?_) | (refine gi_skip ?_) | (refine gi_block ?_) | (refine gi_inBlock ?_) | (refine gi_exit rfl ?_) | (refine gi_cnd ?_; first | refine gi_true rfl ?_ | refine gi_false rfl ?_) | (refine gi_label ?_)))
      refine gi_finX hT Try.func11 rfl [0] [0] rfl rfl rfl rfl rfl rfl rfl rfl ?_
      refine ⟨rfl, rfl, ?_⟩
      refine congrArg (fun L => [L]) (eE_eq ?_).symm
      rw [hx3, List.map_set]
      simp only [Int.toNat_natCast, List.set_set]
      rfl
end Go.Proofs.Ytojhnlbfaailcaa.Kt
