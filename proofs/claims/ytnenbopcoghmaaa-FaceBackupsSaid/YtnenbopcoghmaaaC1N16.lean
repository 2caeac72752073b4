/- Part of the proofs of this seat's statements: what the functions compute. No condition. -/
import Derived.Test.YtnenbopcoghmaaaC1N15
set_option linter.unusedSimpArgs false
set_option linter.unusedVariables false
namespace Go.Proofs.Ytnenbopcoghmaaa.Kt
open Go Kw Go.Proofs
attribute [local irreducible] Kw.GI Kw.GR Kw.FnR Kw.FnX
set_option maxHeartbeats 4000000
set_option maxRecDepth 100000
theorem take_any {l : List Nr} {p : Nr → Bool} {j : Nat} {x : Nr} (h : l[j]? = some x) : (l.take (j + 1)).any p = ((l.take j).any p || p x) := by
  rw [take_st h, List.any_append]
  simp
def bk0 : Fc := ⟨2, 50, 0, 0, 1, 4, 0, 60, 50⟩
theorem FaceBackups_ok (ps : List Int) (hps : ∀ p ∈ ps, 0 ≤ p ∧ p ≤ 255) : FnR Try.prog 14 [rsU ps] (RB true) := by
  refine fnR_intro (T := TT) (n := 79) Try.func14 rfl rfl rfl (fun w Z => ?_)
  (repeat (first | (refine r_end ?_) | (refine r_op ?_; first | refine r_pure hT rfl rfl rfl rfl rfl rfl ?_ | refine r_load hT rfl rfl rfl rfl rfl rfl rfl rfl rfl ?_ | refine r_box rfl rfl rfl rfl rfl rfl rfl rfl rfl ?_ | refine r_store hT rfl rfl rfl rfl rfl rfl rfl rfl rfl rfl ?_ | refine r_off rfl rfl rfl rfl rfl ?_ | refine r_alloc hT rfl rfl rfl rfl rfl rfl rfl rfl rfl ?_ | refine r_lit hT rfl rfl rfl rfl rfl rfl rfl rfl rfl rfl rfl rfl rfl ?_ | refine r_off0 rfl rfl rfl rfl ?_) | (refine gi_seq ?_) | (refine gi_plain ?_) | (refine gi_skip ?_) | (refine gi_block ?_) | (refine gi_inBlock ?_) | (refine gi_exit rfl ?_) | (refine gi_cnd ?_; first | refine gi_true rfl ?_ | refine gi_false rfl ?_) | (refine gi_label ?_)))
  refine gi_lt (q := ((ps.map fun x => [RV.v (.int .u8 x)]).length : Int)) rfl (fun h2 => ?_) (fun h2 => ?_)
  · (repeat (first | (refine r_end ?_) | (refine r_op ?_; first | refine r_pure hT rfl rfl rfl rfl rfl rfl ?_ | refine r_load hT rfl rfl rfl rfl rfl rfl rfl rfl rfl ?_ | refine r_box rfl rfl rfl rfl rfl rfl rfl rfl rfl ?_ | refine r_store hT rfl rfl rfl rfl rfl rfl rfl rfl rfl rfl ?_ | refine r_off rfl rfl rfl rfl rfl ?_ | refine r_alloc hT rfl rfl rfl rfl rfl rfl rfl rfl rfl ?_ | refine r_lit hT rfl rfl rfl rfl rfl rfl rfl rfl rfl rfl rfl rfl rfl ?_ | refine r_off0 rfl rfl rfl rfl ?_) | (refine gi_seq ?_) | (refine gi_plain ?_) | (refine gi_skip ?_) | (refine gi_block ?_) | (refine gi_inBlock ?_) | (refine gi_exit rfl ?_) | (refine gi_cnd ?_; first | refine gi_true rfl ?_ | refine gi_false rfl ?_) | (refine gi_label ?_)))
    refine r_call (awake12_ok) rfl rfl rfl rfl rfl rfl rfl rfl Try.func36 rfl rfl rfl pB ?_
    rintro r S1 ⟨rfl, rfl⟩
    (repeat (first | (refine r_end ?_) | (refine r_op ?_; first | refine r_pure hT rfl rfl rfl rfl rfl rfl ?_ | refine r_load hT rfl rfl rfl rfl rfl rfl rfl rfl rfl ?_ | refine r_box rfl rfl rfl rfl rfl rfl rfl rfl rfl ?_ | refine r_store hT rfl rfl rfl rfl rfl rfl rfl rfl rfl rfl ?_ | refine r_off rfl rfl rfl rfl rfl ?_ | refine r_alloc hT rfl rfl rfl rfl rfl rfl rfl rfl rfl ?_ | refine r_lit hT rfl rfl rfl rfl rfl rfl rfl rfl rfl rfl rfl rfl rfl ?_ | refine r_off0 rfl rfl rfl rfl ?_) | (refine gi_seq ?_) | (refine gi_plain ?_) | (refine gi_skip ?_) | (refine gi_block ?_) | (refine gi_inBlock ?_) | (refine gi_exit rfl ?_) | (refine gi_cnd ?_; first | refine gi_true rfl ?_ | refine gi_false rfl ?_) | (refine gi_label ?_)))
    refine gi_retW hT Try.func14 rfl rfl [] rfl rfl rfl rfl ?_
    exact ⟨rfl, rfl⟩
  rw [List.length_map] at h2
  (repeat (first | (refine r_end ?_) | (refine r_op ?_; first | refine r_pure hT rfl rfl rfl rfl rfl rfl ?_ | refine r_load hT rfl rfl rfl rfl rfl rfl rfl rfl rfl ?_ | refine r_box rfl rfl rfl rfl rfl rfl rfl rfl rfl ?_ | refine r_store hT rfl rfl rfl rfl rfl rfl rfl rfl rfl rfl ?_ | refine r_off rfl rfl rfl rfl rfl ?_ | refine r_alloc hT rfl rfl rfl rfl rfl rfl rfl rfl rfl ?_ | refine r_lit hT rfl rfl rfl rfl rfl rfl rfl rfl rfl rfl rfl rfl rfl ?_ | refine r_off0 rfl rfl rfl rfl ?_) | (refine gi_seq ?_) | (refine gi_plain ?_) | (refine gi_skip ?_) | (refine gi_block ?_) | (refine gi_inBlock ?_) | (refine gi_exit rfl ?_) | (refine gi_cnd ?_; first | refine gi_true rfl ?_ | refine gi_false rfl ?_) | (refine gi_label ?_)))
  refine gi_adopt (e := 47) (sz := 7) 4 rfl ?_
  refine gi_loop (σ := Nat × List Nr × Int × Int) (fun s => [(7, I s.1), (4, .sl 0), (5, I s.2.2.1), (6, I s.2.2.2), (3, .box 0 0), (0, rsU ps), (2, Bo false)]) (fun _ => [some (58, bk0.cells)]) (fun s => [eN s.2.1]) (fun s => s.1 ≤ ps.length ∧ s.2.1.length ≤ s.1 ∧ Bk s.2.1 s.2.2.1 s.2.2.2) (fun s => ps.length - s.1) (0, [], 0, 0) ⟨Nat.zero_le _, Nat.le_refl _, Bk.nil⟩ ⟨rfl, rfl, rfl, rfl, rfl, rfl, rfl, trivial⟩ ⟨rfl, trivial⟩ ⟨rfl, trivial⟩ (fun _ => rfl) (fun s hs next => ?_)
  obtain ⟨j, l, best, at_⟩ := s
  obtain ⟨hj, hlj, hk⟩ := hs
  simp only at hj hlj hk
  (repeat (first | (refine r_end ?_) | (refine r_op ?_; first | refine r_pure hT rfl rfl rfl rfl rfl rfl ?_ | refine r_load hT rfl rfl rfl rfl rfl rfl rfl rfl rfl ?_ | refine r_box rfl rfl rfl rfl rfl rfl rfl rfl rfl ?_ | refine r_store hT rfl rfl rfl rfl rfl rfl rfl rfl rfl rfl ?_ | refine r_off rfl rfl rfl rfl rfl ?_ | refine r_alloc hT rfl rfl rfl rfl rfl rfl rfl rfl rfl ?_ | refine r_lit hT rfl rfl rfl rfl rfl rfl rfl rfl rfl rfl rfl rfl rfl ?_ | refine r_off0 rfl rfl rfl rfl ?_) | (refine gi_seq ?_) | (refine gi_plain ?_) | (refine gi_skip ?_) | (refine gi_block ?_) | (refine gi_inBlock ?_) | (refine gi_exit rfl ?_) | (refine gi_cnd ?_; first | refine gi_true rfl ?_ | refine gi_false rfl ?_) | (refine gi_label ?_)))
  refine gi_lt (q := ((ps.map fun x => [RV.v (.int .u8 x)]).length : Int)) rfl (fun h3 => ?_) (fun h3 => ?_)
  · rw [List.length_map] at h3
    simp only at h3
    have h3' : j < ps.length := by omega
    obtain ⟨x, hx⟩ : ∃ x, ps[j]? = some x := ⟨_, List.getElem?_eq_getElem h3'⟩
    have hxr := hps x (List.mem_of_getElem? hx)
    obtain ⟨id, hid, hid1⟩ : ∃ id, wr .i64 (100 + wr .i64 x) = id ∧ 100 ≤ id := by
      rw [wr_i64 (n := x) (by omega) (by omega), wr_i64 (by omega) (by omega)]
      exact ⟨100 + x, rfl, by omega⟩
    have hw : wr .i64 (200 + (j : Int)) = 200 + j := wr_i64 (by omega) (by omega)
    (repeat (first | (refine r_end ?_) | (refine r_op ?_; first | refine r_pure hT rfl rfl rfl rfl rfl rfl ?_ | refine r_load hT rfl rfl rfl rfl rfl rfl rfl rfl rfl ?_ | refine r_box rfl rfl rfl rfl rfl rfl rfl rfl rfl ?_ | refine r_store hT rfl rfl rfl rfl rfl rfl rfl rfl rfl rfl ?_ | refine r_off rfl rfl rfl rfl rfl ?_ | refine r_alloc hT rfl rfl rfl rfl rfl rfl rfl rfl rfl ?_ | refine r_lit hT rfl rfl rfl rfl rfl rfl rfl rfl rfl rfl rfl rfl rfl ?_ | refine r_off0 rfl rfl rfl rfl ?_) | (refine gi_seq ?_) | (refine gi_plain ?_) | (refine gi_skip ?_) | (refine gi_block ?_) | (refine gi_inBlock ?_) | (refine gi_exit rfl ?_) | (refine gi_cnd ?_; first | refine gi_true rfl ?_ | refine gi_false rfl ?_) | (refine gi_label ?_)))
    refine r_idx (row := [.v (.int .u8 x)]) hT rfl rfl rfl rfl rfl rfl rfl rfl rfl rfl rfl rfl (by simp only; omega) (by simp [hx]) ?_
    (repeat (first | (refine r_end ?_) | (refine r_op ?_; first | refine r_pure hT rfl rfl rfl rfl rfl rfl ?_ | refine r_load hT rfl rfl rfl rfl rfl rfl rfl rfl rfl ?_ | refine r_box rfl rfl rfl rfl rfl rfl rfl rfl rfl ?_ | refine r_store hT rfl rfl rfl rfl rfl rfl rfl rfl rfl rfl ?_ | refine r_off rfl rfl rfl rfl rfl ?_ | refine r_alloc hT rfl rfl rfl rfl rfl rfl rfl rfl rfl ?_ | refine r_lit hT rfl rfl rfl rfl rfl rfl rfl rfl rfl rfl rfl rfl rfl ?_ | refine r_off0 rfl rfl rfl rfl ?_) | (refine gi_seq ?_) | (refine gi_plain ?_) | (refine gi_skip ?_) | (refine gi_block ?_) | (refine gi_inBlock ?_) | (refine gi_exit rfl ?_) | (refine gi_cnd ?_; first | refine gi_true rfl ?_ | refine gi_false rfl ?_) | (refine gi_label ?_)))
    refine gi_turn (d := 8) (y := I id) rfl (by rw [hid]) ?_
    refine gi_loop (σ := Nat) (fun k => [(10, I k), (9, Bo ((l.take k).any fun z => z.id == id)), (8, I id), (7, I j), (4, .sl 0), (5, I best), (6, I at_), (3, .box 0 0), (0, rsU ps), (2, Bo false)]) (fun _ => [some (58, bk0.cells)]) (fun _ => [eN l]) (fun k => k ≤ l.length) (fun k => l.length - k) 0 (Nat.zero_le _) ⟨rfl, rfl, rfl, rfl, rfl, rfl, rfl, rfl, rfl, rfl, trivial⟩ ⟨rfl, trivial⟩ ⟨rfl, trivial⟩ (fun _ => rfl) (fun k hk' next2 => ?_)
    (repeat (first | (refine r_end ?_) | (refine r_op ?_; first | refine r_pure hT rfl rfl rfl rfl rfl rfl ?_ | refine r_load hT rfl rfl rfl rfl rfl rfl rfl rfl rfl ?_ | refine r_box rfl rfl rfl rfl rfl rfl rfl rfl rfl ?_ | refine r_store hT rfl rfl rfl rfl rfl rfl rfl rfl rfl rfl ?_ | refine r_off rfl rfl rfl rfl rfl ?_ | refine r_alloc hT rfl rfl rfl rfl rfl rfl rfl rfl rfl ?_ | refine r_lit hT rfl rfl rfl rfl rfl rfl rfl rfl rfl rfl rfl rfl rfl ?_ | refine r_off0 rfl rfl rfl rfl ?_) | (refine gi_seq ?_) | (refine gi_plain ?_) | (refine gi_skip ?_) | (refine gi_block ?_) | (refine gi_inBlock ?_) | (refine gi_exit rfl ?_) | (refine gi_cnd ?_; first | refine gi_true rfl ?_ | refine gi_false rfl ?_) | (refine gi_label ?_)))
    refine gi_lt rfl (fun h4 => ?_) (fun h4 => ?_)
    · rw [List.length_map] at h4
      have hkl : k < l.length := by omega
      obtain ⟨y, hy⟩ : ∃ y, l[k]? = some y := ⟨_, List.getElem?_eq_getElem hkl⟩
      have hta := take_any (p := fun z => z.id == id) hy
      have again : ∀ (b : Bool) F1 H1 S1, b = ((l.take (k + 1)).any fun z => z.id == id) → SubF [(10, I ((k + 1 : Nat) : Int)), (9, Bo b), (8, I id), (7, I j), (4, .sl 0), (5, I best), (6, I at_), (3, .box 0 0), (0, rsU ps), (2, Bo false)] F1 → SubH [some (58, bk0.cells)] H1 → SubS [eN l] S1 → GI _ _ F1 H1 S1 := fun b F1 H1 S1 hb hF hH hS => by
        subst hb
        exact next2 (k + 1) F1 H1 S1 hkl (by omega) hF hH hS
      (repeat (first | (refine r_end ?_) | (refine r_op ?_; first | refine r_pure hT rfl rfl rfl rfl rfl rfl ?_ | refine r_load hT rfl rfl rfl rfl rfl rfl rfl rfl rfl ?_ | refine r_box rfl rfl rfl rfl rfl rfl rfl rfl rfl ?_ | refine r_store hT rfl rfl rfl rfl rfl rfl rfl rfl rfl rfl ?_ | refine r_off rfl rfl rfl rfl rfl ?_ | refine r_alloc hT rfl rfl rfl rfl rfl rfl rfl rfl rfl ?_ | refine r_lit hT rfl rfl rfl rfl rfl rfl rfl rfl rfl rfl rfl rfl rfl ?_ | refine r_off0 rfl rfl rfl rfl ?_) | (refine gi_seq ?_) | (refine gi_plain ?_) | (refine gi_skip ?_) | (refine gi_block ?_) | (refine gi_inBlock ?_) | (refine gi_exit rfl ?_) | (refine gi_cnd ?_; first | refine gi_true rfl ?_ | refine gi_false rfl ?_) | (refine gi_label ?_)))
      refine r_case (d := 36) rfl (fun h5 => ?_) (fun h5 => ?_)
      · (repeat (first | (refine r_end ?_) | (refine r_op ?_; first | refine r_pure hT rfl rfl rfl rfl rfl rfl ?_ | refine r_load hT rfl rfl rfl rfl rfl rfl rfl rfl rfl ?_ | refine r_box rfl rfl rfl rfl rfl rfl rfl rfl rfl ?_ | refine r_store hT rfl rfl rfl rfl rfl rfl rfl rfl rfl rfl ?_ | refine r_off rfl rfl rfl rfl rfl ?_ | refine r_alloc hT rfl rfl rfl rfl rfl rfl rfl rfl rfl ?_ | refine r_lit hT rfl rfl rfl rfl rfl rfl rfl rfl rfl rfl rfl rfl rfl ?_ | refine r_off0 rfl rfl rfl rfl ?_) | (refine gi_seq ?_) | (refine gi_plain ?_) | (refine gi_skip ?_) | (refine gi_block ?_) | (refine gi_inBlock ?_) | (refine gi_exit rfl ?_) | (refine gi_cnd ?_; first | refine gi_true rfl ?_ | refine gi_false rfl ?_) | (refine gi_label ?_)))
        refine again true _ _ _ (by rw [hta, h5]; rfl) ⟨?_, rfl, rfl, rfl, rfl, rfl, rfl, rfl, rfl, rfl, trivial⟩ ⟨rfl, trivial⟩ ⟨rfl, trivial⟩
        show some (I (wr .i64 ((k : Int) + 1))) = _
        rw [wr_i64 (by omega) (by omega)]
        simp
      · (repeat (first | (refine r_end ?_) | (refine r_op ?_; first | refine r_pure hT rfl rfl rfl rfl rfl rfl ?_ | refine r_load hT rfl rfl rfl rfl rfl rfl rfl rfl rfl ?_ | refine r_box rfl rfl rfl rfl rfl rfl rfl rfl rfl ?_ | refine r_store hT rfl rfl rfl rfl rfl rfl rfl rfl rfl rfl ?_ | refine r_off rfl rfl rfl rfl rfl ?_ | refine r_alloc hT rfl rfl rfl rfl rfl rfl rfl rfl rfl ?_ | refine r_lit hT rfl rfl rfl rfl rfl rfl rfl rfl rfl rfl rfl rfl rfl ?_ | refine r_off0 rfl rfl rfl rfl ?_) | (refine gi_seq ?_) | (refine gi_plain ?_) | (refine gi_skip ?_) | (refine gi_block ?_) | (refine gi_inBlock ?_) | (refine gi_exit rfl ?_) | (refine gi_cnd ?_; first | refine gi_true rfl ?_ | refine gi_false rfl ?_) | (refine gi_label ?_)))
        refine r_idxS hT rfl rfl rfl rfl rfl rfl rfl rfl rfl rfl rfl rfl rfl (by (try dsimp only) <;> (try simp only [wrL, List.length_map, List.length_append, List.length_take, List.length_drop, List.length_replicate, List.length_cons, List.length_nil]) <;> omega) (by (try dsimp only) <;> (try simp only [wrL, List.length_map, List.length_append, List.length_take, List.length_drop, List.length_replicate, List.length_cons, List.length_nil]) <;> omega) ?_
        (repeat (first | (refine r_end ?_) | (refine r_op ?_; first | refine r_pure hT rfl rfl rfl rfl rfl rfl ?_ | refine r_load hT rfl rfl rfl rfl rfl rfl rfl rfl rfl ?_ | refine r_box rfl rfl rfl rfl rfl rfl rfl rfl rfl ?_ | refine r_store hT rfl rfl rfl rfl rfl rfl rfl rfl rfl rfl ?_ | refine r_off rfl rfl rfl rfl rfl ?_ | refine r_alloc hT rfl rfl rfl rfl rfl rfl rfl rfl rfl ?_ | refine r_lit hT rfl rfl rfl rfl rfl rfl rfl rfl rfl rfl rfl rfl rfl ?_ | refine r_off0 rfl rfl rfl rfl ?_) | (refine gi_seq ?_) | (refine gi_plain ?_) | (refine gi_skip ?_) | (refine gi_block ?_) | (refine gi_inBlock ?_) | (refine gi_exit rfl ?_) | (refine gi_cnd ?_; first | refine gi_true rfl ?_ | refine gi_false rfl ?_) | (refine gi_label ?_)))
        refine r_loadS (row := y.row) hT rfl rfl rfl rfl rfl rfl rfl rfl (by show (l.map Nr.row)[((k : Int)).toNat]? = _; rw [Int.toNat_natCast, List.getElem?_map, hy]; rfl) rfl rfl rfl ?_
        (repeat (first | (refine r_end ?_) | (refine r_op ?_; first | refine r_pure hT rfl rfl rfl rfl rfl rfl ?_ | refine r_load hT rfl rfl rfl rfl rfl rfl rfl rfl rfl ?_ | refine r_box rfl rfl rfl rfl rfl rfl rfl rfl rfl ?_ | refine r_store hT rfl rfl rfl rfl rfl rfl rfl rfl rfl rfl ?_ | refine r_off rfl rfl rfl rfl rfl ?_ | refine r_alloc hT rfl rfl rfl rfl rfl rfl rfl rfl rfl ?_ | refine r_lit hT rfl rfl rfl rfl rfl rfl rfl rfl rfl rfl rfl rfl rfl ?_ | refine r_off0 rfl rfl rfl rfl ?_) | (refine gi_seq ?_) | (refine gi_plain ?_) | (refine gi_skip ?_) | (refine gi_block ?_) | (refine gi_inBlock ?_) | (refine gi_exit rfl ?_) | (refine gi_cnd ?_; first | refine gi_true rfl ?_ | refine gi_false rfl ?_) | (refine gi_label ?_)))
        refine again (eqB y.id id) _ _ _ (by rw [hta, h5, eqB_eq]; rfl) ⟨?_, rfl, rfl, rfl, rfl, rfl, rfl, rfl, rfl, rfl, trivial⟩ ⟨rfl, trivial⟩ ⟨rfl, trivial⟩
        show some (I (wr .i64 ((k : Int) + 1))) = _
        rw [wr_i64 (by omega) (by omega)]
        simp
    · have hkl : k ≤ l.length := hk'
      have : k = l.length := by rw [List.length_map] at h4; omega
      subst this
      rw [List.take_length]
      (repeat (first | (refine r_end ?_) | (refine r_op ?_; first | refine r_pure hT rfl rfl rfl rfl rfl rfl ?_ | refine r_load hT rfl rfl rfl rfl rfl rfl rfl rfl rfl ?_ | refine r_box rfl rfl rfl rfl rfl rfl rfl rfl rfl ?_ | refine r_store hT rfl rfl rfl rfl rfl rfl rfl rfl rfl rfl ?_ | refine r_off rfl rfl rfl rfl rfl ?_ | refine r_alloc hT rfl rfl rfl rfl rfl rfl rfl rfl rfl ?_ | refine r_lit hT rfl rfl rfl rfl rfl rfl rfl rfl rfl rfl rfl rfl rfl ?_ | refine r_off0 rfl rfl rfl rfl ?_) | (refine gi_seq ?_) | (refine gi_plain ?_) | (refine gi_skip ?_) | (refine gi_block ?_) | (refine gi_inBlock ?_) | (refine gi_exit rfl ?_) | (refine gi_cnd ?_; first | refine gi_true rfl ?_ | refine gi_false rfl ?_) | (refine gi_label ?_)))
      refine gi_cond rfl (fun h5 => ?_) (fun h5 => ?_)
      · (repeat (first | (refine r_end ?_) | (refine r_op ?_; first | refine r_pure hT rfl rfl rfl rfl rfl rfl ?_ | refine r_load hT rfl rfl rfl rfl rfl rfl rfl rfl rfl ?_ | refine r_box rfl rfl rfl rfl rfl rfl rfl rfl rfl ?_ | refine r_store hT rfl rfl rfl rfl rfl rfl rfl rfl rfl rfl ?_ | refine r_off rfl rfl rfl rfl rfl ?_ | refine r_alloc hT rfl rfl rfl rfl rfl rfl rfl rfl rfl ?_ | refine r_lit hT rfl rfl rfl rfl rfl rfl rfl rfl rfl rfl rfl rfl rfl ?_ | refine r_off0 rfl rfl rfl rfl ?_) | (refine gi_seq ?_) | (refine gi_plain ?_) | (refine gi_skip ?_) | (refine gi_block ?_) | (refine gi_inBlock ?_) | (refine gi_exit rfl ?_) | (refine gi_cnd ?_; first | refine gi_true rfl ?_ | refine gi_false rfl ?_) | (refine gi_label ?_)))
        refine next (j + 1, l, best, at_) _ _ _ ⟨h3', by simp only; omega, hk⟩ (by simp only; omega) ⟨?_, rfl, rfl, rfl, rfl, rfl, rfl, trivial⟩ ⟨rfl, trivial⟩ ⟨rfl, trivial⟩
        show some (I (wr .i64 ((j : Int) + 1))) = _
        rw [wr_i64 (by omega) (by omega)]
        simp
      · have hk2 := hk.add (a := 200 + j) h5 hid1 (by omega)
        (repeat (first | (refine r_end ?_) | (refine r_op ?_; first | refine r_pure hT rfl rfl rfl rfl rfl rfl ?_ | refine r_load hT rfl rfl rfl rfl rfl rfl rfl rfl rfl ?_ | refine r_box rfl rfl rfl rfl rfl rfl rfl rfl rfl ?_ | refine r_store hT rfl rfl rfl rfl rfl rfl rfl rfl rfl rfl ?_ | refine r_off rfl rfl rfl rfl rfl ?_ | refine r_alloc hT rfl rfl rfl rfl rfl rfl rfl rfl rfl ?_ | refine r_lit hT rfl rfl rfl rfl rfl rfl rfl rfl rfl rfl rfl rfl rfl ?_ | refine r_off0 rfl rfl rfl rfl ?_) | (refine gi_seq ?_) | (refine gi_plain ?_) | (refine gi_skip ?_) | (refine gi_block ?_) | (refine gi_inBlock ?_) | (refine gi_exit rfl ?_) | (refine gi_cnd ?_; first | refine gi_true rfl ?_ | refine gi_false rfl ?_) | (refine gi_label ?_)))
        refine r_append hT rfl rfl rfl rfl rfl rfl rfl rfl rfl rfl rfl rfl rfl rfl rfl rfl rfl ?_ ?_
        · simp only [List.length_cons, List.length_nil, List.length_map, maxLen]
          constructor
          · omega
          · show _ * 56 ≤ _
            omega
        (repeat (first | (refine r_end ?_) | (refine r_op ?_; first | refine r_pure hT rfl rfl rfl rfl rfl rfl ?_ | refine r_load hT rfl rfl rfl rfl rfl rfl rfl rfl rfl ?_ | refine r_box rfl rfl rfl rfl rfl rfl rfl rfl rfl ?_ | refine r_store hT rfl rfl rfl rfl rfl rfl rfl rfl rfl rfl ?_ | refine r_off rfl rfl rfl rfl rfl ?_ | refine r_alloc hT rfl rfl rfl rfl rfl rfl rfl rfl rfl ?_ | refine r_lit hT rfl rfl rfl rfl rfl rfl rfl rfl rfl rfl rfl rfl rfl ?_ | refine r_off0 rfl rfl rfl rfl ?_) | (refine gi_seq ?_) | (refine gi_plain ?_) | (refine gi_skip ?_) | (refine gi_block ?_) | (refine gi_inBlock ?_) | (refine gi_exit rfl ?_) | (refine gi_cnd ?_; first | refine gi_true rfl ?_ | refine gi_false rfl ?_) | (refine gi_label ?_)))
        refine gi_lt rfl (fun h6 => ?_) (fun h6 => ?_)
        · rw [if_pos h6, if_pos h6] at hk2
          (repeat (first | (refine r_end ?_) | (refine r_op ?_; first | refine r_pure hT rfl rfl rfl rfl rfl rfl ?_ | refine r_load hT rfl rfl rfl rfl rfl rfl rfl rfl rfl ?_ | refine r_box rfl rfl rfl rfl rfl rfl rfl rfl rfl ?_ | refine r_store hT rfl rfl rfl rfl rfl rfl rfl rfl rfl rfl ?_ | refine r_off rfl rfl rfl rfl rfl ?_ | refine r_alloc hT rfl rfl rfl rfl rfl rfl rfl rfl rfl ?_ | refine r_lit hT rfl rfl rfl rfl rfl rfl rfl rfl rfl rfl rfl rfl rfl ?_ | refine r_off0 rfl rfl rfl rfl ?_) | (refine gi_seq ?_) | (refine gi_plain ?_) | (refine gi_skip ?_) | (refine gi_block ?_) | (refine gi_inBlock ?_) | (refine gi_exit rfl ?_) | (refine gi_cnd ?_; first | refine gi_true rfl ?_ | refine gi_false rfl ?_) | (refine gi_label ?_)))
          refine next (j + 1, l ++ [bkN id (200 + j)], id, 200 + j) _ _ _ ⟨h3', by simp only [List.length_append, List.length_cons, List.length_nil]; omega, hk2⟩ (by simp only; omega) ⟨?_, rfl, rfl, ?_, rfl, rfl, rfl, trivial⟩ ⟨rfl, trivial⟩ ⟨?_, trivial⟩
          · show some (I (wr .i64 ((j : Int) + 1))) = _
            rw [wr_i64 (by omega) (by omega)]
            simp
          · show some (I (wr .i64 (200 + (j : Int)))) = _
            rw [hw]
          · refine eN_eq ?_
            rw [List.map_append]
            simp only [hw]
            rfl
        · rw [if_neg h6, if_neg h6] at hk2
          (repeat (first | (refine r_end ?_) | (refine r_op ?_; first | refine r_pure hT rfl rfl rfl rfl rfl rfl ?_ | refine r_load hT rfl rfl rfl rfl rfl rfl rfl rfl rfl ?_ | refine r_box rfl rfl rfl rfl rfl rfl rfl rfl rfl ?_ | refine r_store hT rfl rfl rfl rfl rfl rfl rfl rfl rfl rfl ?_ | refine r_off rfl rfl rfl rfl rfl ?_ | refine r_alloc hT rfl rfl rfl rfl rfl rfl rfl rfl rfl ?_ | refine r_lit hT rfl rfl rfl rfl rfl rfl rfl rfl rfl rfl rfl rfl rfl ?_ | refine r_off0 rfl rfl rfl rfl ?_) | (refine gi_seq ?_) | (refine gi_plain ?_) | (refine gi_skip ?_) | (refine gi_block ?_) | (refine gi_inBlock ?_) | (refine gi_exit rfl ?_) | (refine gi_cnd ?_; first | refine gi_true rfl ?_ | refine gi_false rfl ?_) | (refine gi_label ?_)))
          refine next (j + 1, l ++ [bkN id (200 + j)], best, at_) _ _ _ ⟨h3', by simp only [List.length_append, List.length_cons, List.length_nil]; omega, hk2⟩ (by simp only; omega) ⟨?_, rfl, rfl, rfl, rfl, rfl, rfl, trivial⟩ ⟨rfl, trivial⟩ ⟨?_, trivial⟩
          · show some (I (wr .i64 ((j : Int) + 1))) = _
            rw [wr_i64 (by omega) (by omega)]
            simp
          · refine eN_eq ?_
            rw [List.map_append]
            simp only [hw]
            rfl
  · have e := Step_ok bk0 7 l (by omega)
    rw [show stepF bk0 7 l = ⟨2, 50, 0, 0, 1, 5, 0, 50, at_⟩ from hk.step] at e
    (repeat (first | (refine r_end ?_) | (refine r_op ?_; first | refine r_pure hT rfl rfl rfl rfl rfl rfl ?_ | refine r_load hT rfl rfl rfl rfl rfl rfl rfl rfl rfl ?_ | refine r_box rfl rfl rfl rfl rfl rfl rfl rfl rfl ?_ | refine r_store hT rfl rfl rfl rfl rfl rfl rfl rfl rfl rfl ?_ | refine r_off rfl rfl rfl rfl rfl ?_ | refine r_alloc hT rfl rfl rfl rfl rfl rfl rfl rfl rfl ?_ | refine r_lit hT rfl rfl rfl rfl rfl rfl rfl rfl rfl rfl rfl rfl rfl ?_ | refine r_off0 rfl rfl rfl rfl ?_) | (refine gi_seq ?_) | (refine gi_plain ?_) | (refine gi_skip ?_) | (refine gi_block ?_) | (refine gi_inBlock ?_) | (refine gi_exit rfl ?_) | (refine gi_cnd ?_; first | refine gi_true rfl ?_ | refine gi_false rfl ?_) | (refine gi_label ?_)))
    refine r_call (e) rfl rfl rfl rfl rfl rfl rfl rfl Try.func35 rfl rfl rfl pFc ?_
    rintro r S1 ⟨rfl, rfl⟩
    (repeat (first | (refine r_end ?_) | (refine r_op ?_; first | refine r_pure hT rfl rfl rfl rfl rfl rfl ?_ | refine r_load hT rfl rfl rfl rfl rfl rfl rfl rfl rfl ?_ | refine r_box rfl rfl rfl rfl rfl rfl rfl rfl rfl ?_ | refine r_store hT rfl rfl rfl rfl rfl rfl rfl rfl rfl rfl ?_ | refine r_off rfl rfl rfl rfl rfl ?_ | refine r_alloc hT rfl rfl rfl rfl rfl rfl rfl rfl rfl ?_ | refine r_lit hT rfl rfl rfl rfl rfl rfl rfl rfl rfl rfl rfl rfl rfl ?_ | refine r_off0 rfl rfl rfl rfl ?_) | (refine gi_seq ?_) | (refine gi_plain ?_) | (refine gi_skip ?_) | (refine gi_block ?_) | (refine gi_inBlock ?_) | (refine gi_exit rfl ?_) | (refine gi_cnd ?_; first | refine gi_true rfl ?_ | refine gi_false rfl ?_) | (refine gi_label ?_)))
    refine r_known (d := 65) (b := true) rfl (by show eqB 5 5 = true; rw [eqB_same]) ?_
    (repeat (first | (refine r_end ?_) | (refine r_op ?_; first | refine r_pure hT rfl rfl rfl rfl rfl rfl ?_ | refine r_load hT rfl rfl rfl rfl rfl rfl rfl rfl rfl ?_ | refine r_box rfl rfl rfl rfl rfl rfl rfl rfl rfl ?_ | refine r_store hT rfl rfl rfl rfl rfl rfl rfl rfl rfl rfl ?_ | refine r_off rfl rfl rfl rfl rfl ?_ | refine r_alloc hT rfl rfl rfl rfl rfl rfl rfl rfl rfl ?_ | refine r_lit hT rfl rfl rfl rfl rfl rfl rfl rfl rfl rfl rfl rfl rfl ?_ | refine r_off0 rfl rfl rfl rfl ?_) | (refine gi_seq ?_) | (refine gi_plain ?_) | (refine gi_skip ?_) | (refine gi_block ?_) | (refine gi_inBlock ?_) | (refine gi_exit rfl ?_) | (refine gi_cnd ?_; first | refine gi_true rfl ?_ | refine gi_false rfl ?_) | (refine gi_label ?_)))
    refine r_known (d := 70) (b := true) rfl (by show eqB 50 50 = true; rw [eqB_same]) ?_
    (repeat (first | (refine r_end ?_) | (refine r_op ?_; first | refine r_pure hT rfl rfl rfl rfl rfl rfl ?_ | refine r_load hT rfl rfl rfl rfl rfl rfl rfl rfl rfl ?_ | refine r_box rfl rfl rfl rfl rfl rfl rfl rfl rfl ?_ | refine r_store hT rfl rfl rfl rfl rfl rfl rfl rfl rfl rfl ?_ | refine r_off rfl rfl rfl rfl rfl ?_ | refine r_alloc hT rfl rfl rfl rfl rfl rfl rfl rfl rfl ?_ | refine r_lit hT rfl rfl rfl rfl rfl rfl rfl rfl rfl rfl rfl rfl rfl ?_ | refine r_off0 rfl rfl rfl rfl ?_) | (refine gi_seq ?_) | (refine gi_plain ?_) | (refine gi_skip ?_) | (refine gi_block ?_) | (refine gi_inBlock ?_) | (refine gi_exit rfl ?_) | (refine gi_cnd ?_; first | refine gi_true rfl ?_ | refine gi_false rfl ?_) | (refine gi_label ?_)))
    refine r_known (d := 76) (b := true) rfl (by show eqB at_ at_ = true; rw [eqB_same]) ?_
    (repeat (first | (refine r_end ?_) | (refine r_op ?_; first | refine r_pure hT rfl rfl rfl rfl rfl rfl ?_ | refine r_load hT rfl rfl rfl rfl rfl rfl rfl rfl rfl ?_ | refine r_box rfl rfl rfl rfl rfl rfl rfl rfl rfl ?_ | refine r_store hT rfl rfl rfl rfl rfl rfl rfl rfl rfl rfl ?_ | refine r_off rfl rfl rfl rfl rfl ?_ | refine r_alloc hT rfl rfl rfl rfl rfl rfl rfl rfl rfl ?_ | refine r_lit hT rfl rfl rfl rfl rfl rfl rfl rfl rfl rfl rfl rfl rfl ?_ | refine r_off0 rfl rfl rfl rfl ?_) | (refine gi_seq ?_) | (refine gi_plain ?_) | (refine gi_skip ?_) | (refine gi_block ?_) | (refine gi_inBlock ?_) | (refine gi_exit rfl ?_) | (refine gi_cnd ?_; first | refine gi_true rfl ?_ | refine gi_false rfl ?_) | (refine gi_label ?_)))
    refine r_call (awake12_ok) rfl rfl rfl rfl rfl rfl rfl rfl Try.func36 rfl rfl rfl pB ?_
    rintro r S1 ⟨rfl, rfl⟩
    (repeat (first | (refine r_end ?_) | (refine r_op ?_; first | refine r_pure hT rfl rfl rfl rfl rfl rfl ?_ | refine r_load hT rfl rfl rfl rfl rfl rfl rfl rfl rfl ?_ | refine r_box rfl rfl rfl rfl rfl rfl rfl rfl rfl ?_ | refine r_store hT rfl rfl rfl rfl rfl rfl rfl rfl rfl rfl ?_ | refine r_off rfl rfl rfl rfl rfl ?_ | refine r_alloc hT rfl rfl rfl rfl rfl rfl rfl rfl rfl ?_ | refine r_lit hT rfl rfl rfl rfl rfl rfl rfl rfl rfl rfl rfl rfl rfl ?_ | refine r_off0 rfl rfl rfl rfl ?_) | (refine gi_seq ?_) | (refine gi_plain ?_) | (refine gi_skip ?_) | (refine gi_block ?_) | (refine gi_inBlock ?_) | (refine gi_exit rfl ?_) | (refine gi_cnd ?_; first | refine gi_true rfl ?_ | refine gi_false rfl ?_) | (refine gi_label ?_)))
    refine gi_retW hT Try.func14 rfl rfl [] rfl rfl rfl rfl ?_
    exact ⟨rfl, rfl⟩
end Go.Proofs.Ytnenbopcoghmaaa.Kt
