/- Part of the proofs of this seat's statements: what the functions compute. No condition. -/
import Derived.Test.YtmocggibcniggaaC18A
set_option linter.unusedSimpArgs false
set_option linter.unusedVariables false
namespace Go.Proofs.Ytmocggibcniggaa.Kt
open Go Kw Go.Proofs
attribute [local irreducible] Kw.GI Kw.GR Kw.FnR Kw.FnX
set_option maxHeartbeats 8000000
set_option maxRecDepth 100000
theorem y_flat_Vt : flatK Try.prog 34 = some [some .i64, some .i64] := by kernel_rfl
theorem vlt_eq (x v : Vt) : vlt x v = (ltB x.k v.k || (eqB x.k v.k && ltB x.i v.i)) := by
  unfold vlt
  rw [ltB_eq, ltB_eq, eqB_eq, Bool.beq_eq_decide_eq]
theorem veq_eq (x v : Vt) : (eqB x.k v.k && (eqB x.i v.i && true)) = decide (x = v) := by
  rw [eqB_eq, eqB_eq, Bool.beq_eq_decide_eq, Bool.beq_eq_decide_eq, Bool.and_true, ← Bool.decide_and]
  refine decide_eq_decide.2 ⟨fun h => ?_, fun h => h ▸ ⟨rfl, rfl⟩⟩
  cases x; cases v; simp only [Vt.mk.injEq]; exact h
abbrev hV (v : Vt) : Option (TypeId × List AV) := some (34, [I v.k, I v.i])
theorem Vert_ok (l : List Vt) (v : Vt) (hl : l.length < 1000000) : FnX Try.prog 52 [.sl 0, v.av] [] [eV l] (RV1 (eV (insV l v))) := by
  refine fnX_intro (T := TT) (n := 81) Try.func52 rfl rfl rfl (fun w X Z Y B => ?_)
  (repeat (first | refine r_end ?_ | (refine r_op ?_; first | refine r_pure hT rfl rfl rfl rfl rfl rfl ?_ | refine r_box rfl rfl rfl rfl rfl rfl rfl rfl rfl ?_) | refine gi_seq ?_ | refine gi_plain ?_ | refine gi_block ?_))
  apply gi_cut (σ := Nat) (fun a => [(5, I a), (3, .box 0 0), (0, .sl 0)]) (fun _ => [hV v]) (fun _ => [eV l]) (fun a => a ≤ l.length ∧ (∀ t, t < a → ∀ x, l[t]? = some x → vlt x v = true) ∧ ∀ x, l[a]? = some x → vlt x v = false) (fun _ => rfl)
  case first =>
    intro fin
    refine gi_loop (σ := Nat) (fun a => [(5, I a), (3, .box 0 0), (0, .sl 0)]) (fun _ => [hV v]) (fun _ => [eV l]) (fun a => a ≤ l.length ∧ ∀ t, t < a → ∀ x, l[t]? = some x → vlt x v = true) (fun a => l.length - a) 0 ⟨Nat.zero_le _, fun t ht => absurd ht (Nat.not_lt_zero _)⟩ ⟨rfl, rfl, rfl, trivial⟩ ⟨rfl, trivial⟩ ⟨rfl, trivial⟩ (fun _ => rfl) (fun a ha next => ?_)
    obtain ⟨hal, hlt⟩ := ha
    (repeat (refine gi_seq ?_))
    refine gi_drawM [] [(0, .p), (1, .p), (2, .p), (3, .p), (4, .p), (5, .p), (6, .p), (7, .p), (8, .p), (10, .p), (9, .t), (11, .t), (12, .p), (13, .p), (14, .p), (15, .p), (16, .p), (17, .p), (19, .p), (18, .t), (20, .t), (21, .p), (22, .p), (23, .p), (24, .p), (25, .p), (26, .p), (28, .p), (27, .t), (29, .t), (30, .p), (31, .p), (32, .p), (33, .p)] [0, 0, 2, 5, 8, 16, 16, 112, 144, 272, 16, 1040, 2576, 4112, 8192, 8192, 57344, 73728, 139264, 8192, 532480, 1318912, 2105344, 4194304, 4194304, 29360128, 37748736, 71303168, 4194304, 272629760, 675282944, 1077944320, 2147491856, 4294967312] [0, 0, 2, 5, 8, 16, 16, 112, 144, 272, 16, 1040, 2576, 4112, 8192, 8192, 57344, 73728, 139264, 8192, 532480, 1318912, 2105344, 4194304, 4194304, 29360128, 37748736, 71303168, 4194304, 272629760, 675282944, 1077944320, 2147491856, 4294967312] hm rfl (by kernel_rfl) (fun w1 K => ?_)
    (repeat ((refine r_op ?_; refine r_pure hT rfl rfl rfl rfl rfl rfl ?_)))
    refine r_case (d := 11) rfl (fun c1 => ?_) (fun c1 => ?_)
    · rw [ltB_eq, List.length_map] at c1
      have hao : a < l.length := by have := of_decide_eq_true c1; omega
      obtain ⟨y, hy⟩ : ∃ y, l[a]? = some y := ⟨_, List.getElem?_eq_getElem hao⟩
      have hve := vlt_eq y v
      have more : vlt y v = true → ∀ F1 H1 S1, SubF [(5, I (wr .i64 ((a : Int) + 1))), (3, .box 0 0), (0, .sl 0)] F1 → SubH [hV v] H1 → SubS [eV l] S1 → GI _ _ F1 H1 S1 := fun hb F1 H1 S1 hF hH hS => by
        refine next (a + 1) F1 H1 S1 ⟨hao, fun t ht x hx => ?_⟩ (by omega) ?_ hH hS
        · rcases Nat.lt_succ_iff_lt_or_eq.1 ht with ht | rfl
          · exact hlt t ht x hx
          · rw [hy] at hx; cases hx; exact hb
        · rw [wr_i64 (by omega) (by omega)] at hF
          simpa using hF
      (repeat ((refine r_op ?_; refine r_pure hT rfl rfl rfl rfl rfl rfl ?_)))
      refine r_idxS hT rfl rfl rfl rfl rfl rfl rfl rfl rfl rfl rfl rfl rfl (by (try dsimp only) <;> (try simp only [wrL, List.length_map, List.length_append, List.length_take, List.length_drop, List.length_replicate, List.length_cons, List.length_nil]) <;> omega) (by (try dsimp only) <;> (try simp only [wrL, List.length_map, List.length_append, List.length_take, List.length_drop, List.length_replicate, List.length_cons, List.length_nil]) <;> omega) ?_
      (repeat ((refine r_op ?_; refine r_pure hT rfl rfl rfl rfl rfl rfl ?_)))
      refine r_loadS (row := y.row) hT rfl rfl rfl rfl rfl rfl rfl rfl (by show (l.map Vt.row)[((a : Int)).toNat]? = _; rw [Int.toNat_natCast, List.getElem?_map, hy]; rfl) rfl rfl rfl ?_
      (repeat ((refine r_op ?_; first | refine r_pure hT rfl rfl rfl rfl rfl rfl ?_ | refine r_load hT rfl rfl rfl rfl rfl rfl rfl rfl rfl ?_)))
      refine r_case (d := 20) rfl (fun c2 => ?_) (fun c2 => ?_)
      · rw [c2, Bool.true_or] at hve
        (repeat (first | refine r_end ?_ | (refine r_op ?_; first | refine r_pure hT rfl rfl rfl rfl rfl rfl ?_ | refine r_off rfl rfl rfl rfl rfl ?_) | refine gi_plain ?_ | refine gi_skip ?_ | refine gi_block ?_ | refine gi_inBlock ?_ | (refine gi_cnd ?_; first | refine gi_true rfl ?_ | refine gi_false rfl ?_)))
        exact more hve _ _ _ ⟨rfl, rfl, rfl, trivial⟩ ⟨rfl, trivial⟩ ⟨rfl, trivial⟩
      · rw [c2, Bool.false_or] at hve
        (repeat ((refine r_op ?_; refine r_pure hT rfl rfl rfl rfl rfl rfl ?_)))
        refine r_idxS hT rfl rfl rfl rfl rfl rfl rfl rfl rfl rfl rfl rfl rfl (by (try dsimp only) <;> (try simp only [wrL, List.length_map, List.length_append, List.length_take, List.length_drop, List.length_replicate, List.length_cons, List.length_nil]) <;> omega) (by (try dsimp only) <;> (try simp only [wrL, List.length_map, List.length_append, List.length_take, List.length_drop, List.length_replicate, List.length_cons, List.length_nil]) <;> omega) ?_
        (repeat ((refine r_op ?_; refine r_pure hT rfl rfl rfl rfl rfl rfl ?_)))
        refine r_loadS (row := y.row) hT rfl rfl rfl rfl rfl rfl rfl rfl (by show (l.map Vt.row)[((a : Int)).toNat]? = _; rw [Int.toNat_natCast, List.getElem?_map, hy]; rfl) rfl rfl rfl ?_
        (repeat ((refine r_op ?_; first | refine r_pure hT rfl rfl rfl rfl rfl rfl ?_ | refine r_load hT rfl rfl rfl rfl rfl rfl rfl rfl rfl ?_)))
        refine r_case (d := 29) rfl (fun c3 => ?_) (fun c3 => ?_)
        · rw [c3, Bool.true_and] at hve
          (repeat ((refine r_op ?_; refine r_pure hT rfl rfl rfl rfl rfl rfl ?_)))
          refine r_idxS hT rfl rfl rfl rfl rfl rfl rfl rfl rfl rfl rfl rfl rfl (by (try dsimp only) <;> (try simp only [wrL, List.length_map, List.length_append, List.length_take, List.length_drop, List.length_replicate, List.length_cons, List.length_nil]) <;> omega) (by (try dsimp only) <;> (try simp only [wrL, List.length_map, List.length_append, List.length_take, List.length_drop, List.length_replicate, List.length_cons, List.length_nil]) <;> omega) ?_
          (repeat ((refine r_op ?_; refine r_pure hT rfl rfl rfl rfl rfl rfl ?_)))
          refine r_loadS (row := y.row) hT rfl rfl rfl rfl rfl rfl rfl rfl (by show (l.map Vt.row)[((a : Int)).toNat]? = _; rw [Int.toNat_natCast, List.getElem?_map, hy]; rfl) rfl rfl rfl ?_
          (repeat (first | refine r_end ?_ | (refine r_op ?_; first | refine r_pure hT rfl rfl rfl rfl rfl rfl ?_ | refine r_load hT rfl rfl rfl rfl rfl rfl rfl rfl rfl ?_)))
          refine gi_cond rfl (fun c4 => ?_) (fun c4 => ?_)
          · rw [c4] at hve
            (repeat (first | refine r_end ?_ | (refine r_op ?_; refine r_pure hT rfl rfl rfl rfl rfl rfl ?_) | refine gi_plain ?_ | refine gi_skip ?_ | refine gi_block ?_ | refine gi_inBlock ?_))
            exact more hve _ _ _ ⟨rfl, rfl, rfl, trivial⟩ ⟨rfl, trivial⟩ ⟨rfl, trivial⟩
          · rw [c4] at hve
            (repeat (first | refine gi_seq ?_ | refine gi_exit rfl ?_))
            exact fin a _ _ _ ⟨hal, hlt, fun x hx => by rw [hy] at hx; cases hx; exact hve⟩ ⟨rfl, rfl, rfl, trivial⟩ ⟨rfl, trivial⟩ ⟨rfl, trivial⟩
        · rw [c3, Bool.false_and] at hve
          (repeat (first | refine r_end ?_ | (refine r_op ?_; first | refine r_pure hT rfl rfl rfl rfl rfl rfl ?_ | refine r_off rfl rfl rfl rfl rfl ?_) | refine gi_seq ?_ | refine gi_exit rfl ?_ | (refine gi_cnd ?_; first | refine gi_true rfl ?_ | refine gi_false rfl ?_)))
          exact fin a _ _ _ ⟨hal, hlt, fun x hx => by rw [hy] at hx; cases hx; exact hve⟩ ⟨rfl, rfl, rfl, trivial⟩ ⟨rfl, trivial⟩ ⟨rfl, trivial⟩
    · rw [ltB_eq, List.length_map] at c1
      have hao : ¬ a < l.length := by have := of_decide_eq_false c1; omega
      (repeat (first | refine r_end ?_ | (refine r_op ?_; first | refine r_pure hT rfl rfl rfl rfl rfl rfl ?_ | refine r_off rfl rfl rfl rfl rfl ?_) | refine gi_seq ?_ | refine gi_exit rfl ?_ | (refine gi_cnd ?_; first | refine gi_true rfl ?_ | refine gi_false rfl ?_)))
      exact fin a _ _ _ ⟨hal, hlt, fun x hx => by have := (List.getElem?_eq_some_iff.1 hx).1; omega⟩ ⟨rfl, rfl, rfl, trivial⟩ ⟨rfl, trivial⟩ ⟨rfl, trivial⟩
  case after =>
    rintro a ⟨hal, hlt, hge⟩
    have hins := insV_at hal hlt hge
    apply gi_cut (σ := Unit) (fun _ => [(5, I a), (3, .box 0 0), (0, .sl 0)]) (fun _ => [hV v]) (fun _ => [eV l]) (fun _ => l[a]? ≠ some v) (fun _ => rfl)
    case first =>
      intro fin
      skip
      refine gi_drawM [] [(0, .p), (1, .p), (2, .p), (3, .p), (4, .p), (5, .p), (6, .p), (7, .p), (8, .t), (9, .t), (10, .p), (11, .p)] [0, 0, 2, 5, 8, 16, 16, 112, 144, 16, 784, 1040] [0, 0, 2, 5, 8, 16, 16, 112, 144, 16, 784, 1040] hm rfl (by kernel_rfl) (fun w1 K => ?_)
      (repeat ((refine r_op ?_; refine r_pure hT rfl rfl rfl rfl rfl rfl ?_)))
      refine r_case (d := 47) rfl (fun c1 => ?_) (fun c1 => ?_)
      · rw [ltB_eq, List.length_map] at c1
        have hao : a < l.length := by have := of_decide_eq_true c1; omega
        obtain ⟨y, hy⟩ : ∃ y, l[a]? = some y := ⟨_, List.getElem?_eq_getElem hao⟩
        (repeat ((refine r_op ?_; refine r_pure hT rfl rfl rfl rfl rfl rfl ?_)))
        refine r_idxS hT rfl rfl rfl rfl rfl rfl rfl rfl rfl rfl rfl rfl rfl (by (try dsimp only) <;> (try simp only [wrL, List.length_map, List.length_append, List.length_take, List.length_drop, List.length_replicate, List.length_cons, List.length_nil]) <;> omega) (by (try dsimp only) <;> (try simp only [wrL, List.length_map, List.length_append, List.length_take, List.length_drop, List.length_replicate, List.length_cons, List.length_nil]) <;> omega) ?_
        skip
        refine r_loadS (row := y.row) hT rfl rfl rfl rfl rfl rfl rfl rfl (by show (l.map Vt.row)[((a : Int)).toNat]? = _; rw [Int.toNat_natCast, List.getElem?_map, hy]; rfl) rfl rfl rfl ?_
        (repeat ((refine r_op ?_; refine r_load hT rfl rfl rfl rfl rfl rfl rfl rfl rfl ?_)))
        refine r_eqT _ rfl rfl rfl rfl rfl rfl rfl rfl rfl y_flat_Vt ?_
        (repeat (first | refine r_end ?_ | (refine r_op ?_; refine r_pure hT rfl rfl rfl rfl rfl rfl ?_)))
        refine gi_cond rfl (fun c4 => ?_) (fun c4 => ?_)
        · rw [veq_eq] at c4
          have hyv := of_decide_eq_true c4
          subst hyv
          rw [hy, if_pos rfl] at hins
          (repeat (first | refine r_end ?_ | (refine r_op ?_; refine r_pure hT rfl rfl rfl rfl rfl rfl ?_) | refine gi_seq ?_ | refine gi_plain ?_))
          refine gi_retX hT Try.func52 rfl [] [0] rfl rfl rfl rfl rfl rfl rfl rfl ?_
          exact ⟨rfl, rfl, by rw [hins]⟩
        · rw [veq_eq] at c4
          have hyv := of_decide_eq_false c4
          (repeat (first | refine gi_seq ?_ | refine gi_skip ?_))
          exact fin () _ _ _ (by rw [hy]; intro e; exact hyv (Option.some.inj e)) ⟨rfl, rfl, rfl, trivial⟩ ⟨rfl, trivial⟩ ⟨rfl, trivial⟩
      · rw [ltB_eq, List.length_map] at c1
        have hao : ¬ a < l.length := by have := of_decide_eq_false c1; omega
        (repeat (first | refine r_end ?_ | (refine r_op ?_; first | refine r_pure hT rfl rfl rfl rfl rfl rfl ?_ | refine r_off rfl rfl rfl rfl rfl ?_) | refine gi_seq ?_ | refine gi_skip ?_ | (refine gi_cnd ?_; first | refine gi_true rfl ?_ | refine gi_false rfl ?_)))
        exact fin () _ _ _ (by intro e; have := (List.getElem?_eq_some_iff.1 e).1; omega) ⟨rfl, rfl, rfl, trivial⟩ ⟨rfl, trivial⟩ ⟨rfl, trivial⟩
    case after =>
      intro _ hne
      rw [if_neg hne] at hins
      (repeat (first | (refine r_op ?_; first | refine r_pure hT rfl rfl rfl rfl rfl rfl ?_ | refine r_lit hT rfl rfl rfl rfl rfl rfl rfl rfl rfl rfl rfl rfl rfl ?_) | refine gi_plain ?_))
      refine r_append hT rfl rfl rfl rfl rfl rfl rfl rfl rfl rfl rfl rfl rfl rfl rfl rfl rfl ?_ ?_
      · simp only [List.length_cons, List.length_nil, List.length_map, maxLen]
        constructor
        · omega
        · show _ * 16 ≤ _
          omega
      (repeat (first | refine r_end ?_ | (refine r_op ?_; refine r_pure hT rfl rfl rfl rfl rfl rfl ?_) | refine gi_seq ?_ | refine gi_plain ?_ | refine gi_block ?_))
      have hRl : (l.map Vt.row).length = l.length := List.length_map _
      refine gi_pick [0] [0] rfl rfl rfl rfl rfl ?_
      refine gi_loop (σ := Nat) (fun k => [(6, I k), (5, I a), (3, .box 0 0), (0, .sl 0)]) (fun _ => [hV v]) (fun k => [eVr ((l.map Vt.row ++ [zV]).take (k + 1) ++ (l.map Vt.row).drop k)]) (fun k => a ≤ k ∧ k ≤ l.length) (fun k => k) l.length ⟨hal, Nat.le_refl _⟩ ⟨?_, rfl, rfl, rfl, trivial⟩ ⟨rfl, trivial⟩ ⟨?_, trivial⟩ (fun _ => rfl) (fun k hk next => ?_)
      · show some (I (wr .i64 (((l.map Vt.row ++ [zV]).length : Int) - 1))) = _
        rw [List.length_append, hRl, wr_i64 (by simp <;> omega) (by simp <;> omega)]
        simp
      · rw [← hRl, sh0]
      obtain ⟨hk1, hk2⟩ := hk
      have hLl : ∀ k, k ≤ l.length → ((l.map Vt.row ++ [zV]).take (k + 1) ++ (l.map Vt.row).drop k).length = l.length + 1 := fun k hk => by simp; omega
      (repeat (first | refine r_end ?_ | (refine r_op ?_; refine r_pure hT rfl rfl rfl rfl rfl rfl ?_) | refine gi_seq ?_ | refine gi_plain ?_))
      refine gi_lt rfl (fun h4 => ?_) (fun h4 => ?_)
      · obtain ⟨k', rfl⟩ : ∃ k', k = k' + 1 := ⟨k - 1, by omega⟩
        have hko : k' < l.length := by omega
        obtain ⟨y, hy⟩ : ∃ y, l[k']? = some y := ⟨_, List.getElem?_eq_getElem hko⟩
        have hyr : (l.map Vt.row)[k']? = some y.row := by rw [List.getElem?_map, hy]; rfl
        have e1 : wr .i64 (((k' + 1 : Nat) : Int) - 1) = k' := by rw [wr_i64 (by omega) (by omega)]; omega
        have e2 : (((k' + 1 : Nat) : Int)).toNat = k' + 1 := Int.toNat_natCast _
        (repeat (first | (refine r_op ?_; refine r_pure hT rfl rfl rfl rfl rfl rfl ?_) | refine gi_seq ?_ | refine gi_plain ?_ | refine gi_skip ?_ | refine gi_block ?_))
        refine r_turn (d := 72) (y := I k') rfl (by rw [← e1]) ?_
        refine r_idxS hT rfl rfl rfl rfl rfl rfl rfl rfl rfl rfl rfl rfl rfl (show (0 : Int) ≤ k' by omega) (by show ((k' : Int)).toNat < List.length _; rw [hLl _ hk2]; omega) ?_
        skip
        refine r_loadS (row := y.row) hT rfl rfl rfl rfl rfl rfl rfl rfl (by show (List.append _ _)[((k' : Int)).toNat]? = _; rw [Int.toNat_natCast]; exact (sh_get1 (by rw [hRl]; exact hko)).trans hyr) rfl rfl rfl ?_
        skip
        refine r_idxS hT rfl rfl rfl rfl rfl rfl rfl rfl rfl rfl rfl rfl rfl (show (0 : Int) ≤ ((k' + 1 : Nat) : Int) by omega) (by show (((k' + 1 : Nat) : Int)).toNat < List.length _; rw [e2, hLl _ hk2]; omega) ?_
        skip
        obtain ⟨rw0, hrw0, hset⟩ := sh_row l (k' + 1) hk2
        refine r_storeS (row := rw0) hT rfl rfl rfl rfl rfl rfl rfl rfl rfl rfl rfl rfl rfl (by show (List.append _ _)[(((k' + 1 : Nat) : Int)).toNat]? = _; rw [e2]; exact hrw0) ?_
        (repeat (first | refine r_end ?_ | (refine r_op ?_; refine r_pure hT rfl rfl rfl rfl rfl rfl ?_) | refine gi_plain ?_ | refine gi_inBlock ?_))
        refine next k' _ _ _ ⟨by omega, by omega⟩ (by omega) ⟨?_, rfl, rfl, rfl, trivial⟩ ⟨rfl, trivial⟩ ⟨?_, trivial⟩
        · show some (I (wr .i64 (((k' + 1 : Nat) : Int) - 1))) = _
          rw [e1]
        · refine congrArg (fun L => some (⟨34, 2, L, false⟩ : SE)) ?_
          symm
          show List.set (List.append _ _) (((k' + 1 : Nat) : Int)).toNat (setR rw0 0 y.row) = _
          rw [e2, hset]
          exact sh_step hyr
      · have hka : k = a := by omega
        subst hka
        (repeat (first | (refine r_op ?_; first | refine r_pure hT rfl rfl rfl rfl rfl rfl ?_ | refine r_load hT rfl rfl rfl rfl rfl rfl rfl rfl rfl ?_) | refine gi_seq ?_ | refine gi_plain ?_ | refine gi_exit rfl ?_))
        obtain ⟨rw0, hrw0, hset⟩ := sh_row l k hk2
        refine r_idxS hT rfl rfl rfl rfl rfl rfl rfl rfl rfl rfl rfl rfl rfl (show (0 : Int) ≤ k by omega) (by show ((k : Int)).toNat < List.length _; rw [Int.toNat_natCast, hLl _ hk2]; omega) ?_
        skip
        refine r_storeS (row := rw0) hT rfl rfl rfl rfl rfl rfl rfl rfl rfl rfl rfl rfl rfl (by show (List.append _ _)[((k : Int)).toNat]? = _; rw [Int.toNat_natCast]; exact hrw0) ?_
        (repeat (first | refine r_end ?_ | (refine r_op ?_; refine r_pure hT rfl rfl rfl rfl rfl rfl ?_) | refine gi_seq ?_ | refine gi_plain ?_))
        refine gi_retX hT Try.func52 rfl [] [0] rfl rfl rfl rfl rfl rfl rfl rfl ?_
        refine ⟨rfl, rfl, ?_⟩
        refine congrArg (fun L => [some (⟨34, 2, L, false⟩ : SE)]) ?_
        show List.set (List.append _ _) ((k : Int)).toNat (setR rw0 0 v.row) = List.map Vt.row (insV l v)
        rw [Int.toNat_natCast, hset, hins]
        refine (sh_end (by rw [hRl]; exact hk2)).trans ?_
        simp
end Go.Proofs.Ytmocggibcniggaa.Kt
