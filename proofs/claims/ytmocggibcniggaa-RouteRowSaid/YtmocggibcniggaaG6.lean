/- Part of the proofs of this seat's statements: what the functions compute. No condition. -/
import Derived.Test.YtmocggibcniggaaG5
import Derived.Test.YtmocggibcniggaaG4
import Derived.Test.YtmocggibcniggaaK4
set_option linter.unusedSimpArgs false
set_option linter.unusedVariables false
namespace Go.Proofs.Ytmocggibcniggaa.Kt
open Go Kw Go.Proofs
attribute [local irreducible] Kw.GI Kw.GR Kw.FnR Kw.FnX Kw.FnI
set_option maxHeartbeats 16000000
set_option maxRecDepth 100000
theorem rRoutes_ok (l : List Ls) (self : Int) (hf : Few l) : FnX Try.prog 31 [avMf (mapL l), I self] [] [] (RV1 (eRt (refR (rawL l self)))) := by
  have hT0 := tre_of hf ⟨1, self⟩
  have htl := tree_lt hf ⟨1, self⟩
  have hvl : (vertsL l).length ≤ 2000 := map_vs hf
  have hsn : (mapL l).sn.length ≤ 2000 := by
    have := flat_len (snF_len l) (vertsL l)
    show ((vertsL l).flatMap (snF l)).length ≤ _
    omega
  have hsb : (mapL l).sb.length ≤ 2000000 := by
    have := flat_len (fun v => sbF_len hf v) (vertsL l)
    show ((vertsL l).flatMap (sbF l)).length ≤ _
    omega
  have htree := rTreeL l ⟨1, self⟩ hf
  show FnX _ _ _ _ _ (RV1 (eRt (refR (rawR (mapL l) (refTree (mapL l) ⟨1, self⟩)))))
  obtain ⟨t, ht⟩ : ∃ t, t = refTree (mapL l) ⟨1, self⟩ := ⟨_, rfl⟩
  rw [← ht] at hT0 htl htree
  rw [← ht]
  generalize mapL l = m at hsn hsb htree
  have hel : (ents m).length = m.sn.length + m.sb.length := by unfold ents; rw [List.length_append, List.length_map, List.length_map]
  refine fnX_intro (T := TT) (n := 235) Try.func31 rfl rfl rfl (fun w X Z Y B => ?_)
  (repeat (first | refine r_end ?_ | (refine r_op ?_; first | refine r_pure hT rfl rfl rfl rfl rfl rfl ?_ | refine r_load hT rfl rfl rfl rfl rfl rfl rfl rfl rfl ?_ | refine r_box rfl rfl rfl rfl rfl rfl rfl rfl rfl ?_) | refine gi_seq ?_ | refine gi_plain ?_))
  refine r_call (htree) rfl rfl rfl rfl rfl rfl rfl rfl Try.func50 rfl rfl rfl pT1 ?_
  rintro r S1 ⟨rfl, rfl⟩
  (repeat (first | refine r_end ?_ | (refine r_op ?_; refine r_pure hT rfl rfl rfl rfl rfl rfl ?_) | refine gi_seq ?_))
  refine gi_freeze 0 (L' := t.map Nd.row) rfl rfl ?_
  refine gi_thaw 5 rfl ?_
  refine gi_weak (F' := [(2, .box 0 0), (5, rsNd t)]) (H' := [hMf m]) (S' := []) ⟨rfl, rfl, trivial⟩ ⟨rfl, trivial⟩ trivial rfl ?_
  (repeat (first | refine r_end ?_ | (refine r_op ?_; refine r_pure hT rfl rfl rfl rfl rfl rfl ?_) | refine gi_seq ?_ | refine gi_plain ?_ | refine gi_block ?_))
  refine gi_adopt (e := 67) (sz := 5) 6 rfl ?_
  refine gi_adopt (e := 4) (sz := 1) 7 rfl ?_
  refine gi_loop (σ := Nat × List Rt × List Bool) (fun s => [(8, I (s.1 : Int)), (2, .box 0 0), (5, rsNd t), (6, .sl 0), (7, .sl 1)]) (fun _ => [hMf m]) (fun s => [eRt s.2.1, eBl s.2.2]) (fun s => s.1 ≤ m.sn.length + m.sb.length ∧ Rnd m t s.1 s.2.1 s.2.2) (fun s => m.sn.length + m.sb.length - s.1) (0, [], []) ⟨Nat.zero_le _, rfl, rfl, fun _ b hb => (nomatch hb)⟩ ⟨rfl, rfl, rfl, rfl, rfl, trivial⟩ ⟨rfl, trivial⟩ ⟨rfl, rfl, trivial⟩ (fun _ => rfl) (fun s hs next => ?_)
  obtain ⟨i, M, B⟩ := s
  obtain ⟨hi, hR⟩ := hs
  simp only at hi hR
  have hMl : M.length ≤ i := by
    have h1 := refR_len (rawE t ((ents m).take i))
    have h2 := rawE_len t ((ents m).take i)
    rw [List.length_take] at h2
    rw [hR.eq]
    omega
  have hBl := hR.len
  have hq : wr .i64 ((((m.sn.map Sn.row).length : Nat) : Int) + (((m.sb.map Sb.row).length : Nat) : Int)) = ((m.sn.length + m.sb.length : Nat) : Int) := by
    rw [List.length_map, List.length_map, wadd rfl (by omega)]
  (repeat (first | refine r_end ?_ | (refine r_op ?_; first | refine r_pure hT rfl rfl rfl rfl rfl rfl ?_ | refine r_load hT rfl rfl rfl rfl rfl rfl rfl rfl rfl ?_) | refine gi_seq ?_ | refine gi_plain ?_))
  refine gi_lt (p := (i : Int)) (q := wr .i64 ((((m.sn.map Sn.row).length : Nat) : Int) + (((m.sb.map Sb.row).length : Nat) : Int))) rfl (fun h3 => ?_) (fun h3 => ?_)
  · rw [hq] at h3
    have hil : i < m.sn.length + m.sb.length := by omega
    obtain ⟨e, he⟩ : ∃ e, (ents m)[i]? = some e := ⟨_, List.getElem?_eq_getElem (by omega)⟩
    have hraw : rawE t ((ents m).take (i + 1)) = putR t (rawE t ((ents m).take i)) e.v e.p e.b e.c := foldl_tk he
    have on : ∀ M' B', Rnd m t (i + 1) M' B' → ∀ F1 H1 S1, SubF [(8, I (wr .i64 ((i : Int) + 1))), (2, .box 0 0), (5, rsNd t), (6, .sl 0), (7, .sl 1)] F1 → SubH [hMf m] H1 → SubS [eRt M', eBl B'] S1 → GI _ _ F1 H1 S1 := fun M' B' hM' F1 H1 S1 hF hH hS => by
      refine next (i + 1, M', B') F1 H1 S1 ⟨by simp only; omega, hM'⟩ (by simp only; omega) ?_ hH hS
      rw [wadd1 (by omega)] at hF
      exact hF
    clear next
    (repeat (first | refine r_end ?_ | (refine r_op ?_; first | refine r_pure hT rfl rfl rfl rfl rfl rfl ?_ | refine r_store hT rfl rfl rfl rfl rfl rfl rfl rfl rfl rfl ?_ | refine r_alloc hT rfl rfl rfl rfl rfl rfl rfl rfl rfl ?_) | refine gi_seq ?_ | refine gi_plain_ne 8 rfl ?_ | refine gi_skip ?_ | refine gi_block ?_))
    apply gi_cut (σ := Unit) (fun _ => [(8, I (i : Int)), (9, .box 1 0), (10, .box 2 0), (2, .box 0 0), (5, rsNd t), (6, .sl 0), (7, .sl 1)]) (fun _ => [hMf m, hRt ⟨e.p, e.b, e.c, 0, 0⟩, hV e.v]) (fun _ => [eRt M, eBl B]) (fun _ => True) (fun _ => rfl)
    case first =>
      intro fin
      (repeat (first | refine r_end ?_ | (refine r_op ?_; first | refine r_pure hT rfl rfl rfl rfl rfl rfl ?_ | refine r_load hT rfl rfl rfl rfl rfl rfl rfl rfl rfl ?_) | refine gi_plain ?_))
      refine gi_lt (p := (i : Int)) (q := ((m.sn.map Sn.row).length : Int)) rfl (fun h4 => ?_) (fun h4 => ?_)
      · rw [List.length_map] at h4
        obtain ⟨s, hs⟩ : ∃ s, m.sn[i]? = some s := ⟨_, List.getElem?_eq_getElem (by omega)⟩
        have hes : e = entS s := by
          unfold ents at he
          rw [List.getElem?_append_left (by rw [List.length_map]; omega), List.getElem?_map, hs] at he
          exact (Option.some.inj he).symm
        subst hes
        (repeat (first | (refine r_op ?_; first | refine r_pure hT rfl rfl rfl rfl rfl rfl ?_ | refine r_load hT rfl rfl rfl rfl rfl rfl rfl rfl rfl ?_) | refine gi_seq ?_ | refine gi_plain ?_))
        refine r_thaw 40 rfl ?_
        refine r_idx (row := s.row) hT rfl rfl rfl rfl rfl rfl rfl rfl rfl rfl rfl rfl (nn i) (by simp [hs]) ?_
        (repeat (first | refine r_end ?_ | (refine r_op ?_; first | refine r_pure hT rfl rfl rfl rfl rfl rfl ?_ | refine r_load hT rfl rfl rfl rfl rfl rfl rfl rfl rfl ?_ | refine r_store hT rfl rfl rfl rfl rfl rfl rfl rfl rfl rfl ?_) | refine gi_seq ?_ | refine gi_plain ?_))
        refine r_thaw 47 rfl ?_
        refine r_idx (row := s.row) hT rfl rfl rfl rfl rfl rfl rfl rfl rfl rfl rfl rfl (nn i) (by simp [hs]) ?_
        (repeat (first | refine r_end ?_ | (refine r_op ?_; first | refine r_pure hT rfl rfl rfl rfl rfl rfl ?_ | refine r_load hT rfl rfl rfl rfl rfl rfl rfl rfl rfl ?_ | refine r_store hT rfl rfl rfl rfl rfl rfl rfl rfl rfl rfl ?_) | refine gi_plain ?_))
        refine r_thaw 54 rfl ?_
        refine r_idx (row := s.row) hT rfl rfl rfl rfl rfl rfl rfl rfl rfl rfl rfl rfl (nn i) (by simp [hs]) ?_
        (repeat (first | refine r_end ?_ | (refine r_op ?_; first | refine r_pure hT rfl rfl rfl rfl rfl rfl ?_ | refine r_load hT rfl rfl rfl rfl rfl rfl rfl rfl rfl ?_ | refine r_store hT rfl rfl rfl rfl rfl rfl rfl rfl rfl rfl ?_) | refine gi_seq ?_))
        exact fin () _ _ _ trivial ⟨rfl, rfl, rfl, rfl, rfl, rfl, rfl, trivial⟩ ⟨rfl, rfl, rfl, trivial⟩ ⟨rfl, rfl, trivial⟩
      · rw [List.length_map] at h4
        obtain ⟨k, rfl⟩ : ∃ k, i = m.sn.length + k := ⟨i - m.sn.length, by omega⟩
        obtain ⟨s, hs⟩ : ∃ s, m.sb[k]? = some s := ⟨_, List.getElem?_eq_getElem (by omega)⟩
        have hes : e = entB s := by
          unfold ents at he
          rw [List.getElem?_append_right (by rw [List.length_map]; omega), List.length_map, show m.sn.length + k - m.sn.length = k by omega, List.getElem?_map, hs] at he
          exact (Option.some.inj he).symm
        subst hes
        (repeat (first | (refine r_op ?_; first | refine r_pure hT rfl rfl rfl rfl rfl rfl ?_ | refine r_load hT rfl rfl rfl rfl rfl rfl rfl rfl rfl ?_) | refine gi_seq ?_ | refine gi_plain ?_))
        refine r_thaw 60 rfl ?_
        refine r_turn (d := 65) (y := I (k : Int)) rfl (by rw [List.length_map, wsub rfl (by omega)]) ?_
        refine r_idx (row := s.row) hT rfl rfl rfl rfl rfl rfl rfl rfl rfl rfl rfl rfl (nn k) (by simp [hs]) ?_
        (repeat (first | refine r_end ?_ | (refine r_op ?_; first | refine r_pure hT rfl rfl rfl rfl rfl rfl ?_ | refine r_load hT rfl rfl rfl rfl rfl rfl rfl rfl rfl ?_ | refine r_store hT rfl rfl rfl rfl rfl rfl rfl rfl rfl rfl ?_ | refine r_alloc hT rfl rfl rfl rfl rfl rfl rfl rfl rfl ?_) | refine gi_seq ?_ | refine gi_plain_ne 17 rfl ?_))
        exact fin () _ _ _ trivial ⟨rfl, rfl, rfl, rfl, rfl, rfl, rfl, trivial⟩ ⟨rfl, rfl, rfl, trivial⟩ ⟨rfl, rfl, trivial⟩
    case after =>
    intro _ _
    (repeat (first | (refine r_op ?_; first | refine r_pure hT rfl rfl rfl rfl rfl rfl ?_ | refine r_load hT rfl rfl rfl rfl rfl rfl rfl rfl rfl ?_) | refine gi_plain ?_))
    refine r_call (Place_ok t e.v htl) rfl rfl rfl rfl rfl rfl rfl rfl Try.func38 rfl rfl rfl pI ?_
    rintro r S1 ⟨rfl, rfl⟩
    (repeat (first | refine r_end ?_ | (refine r_op ?_; refine r_pure hT rfl rfl rfl rfl rfl rfl ?_) | refine gi_seq ?_ | refine gi_plain ?_))
    refine gi_lt (p := placeI (placeL t e.v)) (q := 0) rfl (fun c1 => ?_) (fun c1 => ?_)
    · have hn : placeL t e.v = none := by
        cases hp : placeL t e.v with
        | none => rfl
        | some i => rw [hp] at c1; have c1 : (i : Int) < 0 := c1; omega
      have hsame : rawE t ((ents m).take (i + 1)) = rawE t ((ents m).take i) := by rw [hraw]; unfold putR; rw [hn]
      (repeat (first | refine r_end ?_ | (refine r_op ?_; refine r_pure hT rfl rfl rfl rfl rfl rfl ?_) | refine gi_plain ?_ | refine gi_exit rfl ?_))
      exact on M B ⟨by rw [hsame]; exact hR.eq, hR.len, fun h => hR.sp (by omega)⟩ _ _ _ ⟨rfl, rfl, rfl, rfl, rfl, trivial⟩ ⟨rfl, trivial⟩ ⟨rfl, rfl, trivial⟩
    obtain ⟨j, hj⟩ : ∃ j, placeL t e.v = some j := by
      cases hp : placeL t e.v with
      | none => rw [hp] at c1; exact absurd (show (-1 : Int) < 0 by decide) c1
      | some i => exact ⟨i, rfl⟩
    have hjl := placeL_lt hj
    obtain ⟨n, hn⟩ : ∃ n, t[j]? = some n := ⟨_, List.getElem?_eq_getElem hjl⟩
    have hgd : t.getD j zNd = n := by rw [List.getD_eq_getElem?_getD, hn]; rfl
    have hpi : placeI (placeL t e.v) = (j : Int) := by rw [hj]; rfl
    obtain ⟨x, hx⟩ : ∃ x : Rt, x = ⟨e.p, e.b, wr .i64 (e.c + n.c), (hopF t j).1, (hopF t j).2⟩ := ⟨_, rfl⟩
    have hput : rawE t ((ents m).take (i + 1)) = rawE t ((ents m).take i) ++ [x] := by
      rw [hraw]
      unfold putR
      rw [hj]
      simp only
      rw [hgd, hx, Int.add_comm]
    have hins : refR (rawE t ((ents m).take (i + 1))) = insT M x := by rw [hput, refR_snoc, ← hR.eq]
    rw [hpi]
    (repeat (first | refine gi_seq ?_ | refine gi_skip ?_))
    refine gi_drawM [9] [(0, .p), (2, .p), (3, .p), (4, .p), (5, .p), (1, .t), (6, .t), (7, .p), (8, .p), (9, .l)] [0, 1, 0, 0, 12, 16, 32, 66, 255, 511] [0, 1, 0, 0, 12, 16, 32, 66, 0, 384] Kt.hm rfl (by kernel_rfl) (fun w1 K => ?_)
    (repeat ((refine r_op ?_; refine r_pure hT rfl rfl rfl rfl rfl rfl ?_)))
    refine r_idx (row := n.row) hT rfl rfl rfl rfl rfl rfl rfl rfl rfl rfl rfl rfl (nn j) (by simp [hn]) ?_
    (repeat (first | refine r_end ?_ | (refine r_op ?_; first | refine r_pure hT rfl rfl rfl rfl rfl rfl ?_ | refine r_load hT rfl rfl rfl rfl rfl rfl rfl rfl rfl ?_ | refine r_store hT rfl rfl rfl rfl rfl rfl rfl rfl rfl rfl ?_) | refine gi_seq ?_ | refine gi_plain ?_))
    refine r_call (rhop_ok t j hT0 hjl htl) rfl rfl rfl rfl rfl rfl rfl rfl Try.func69 rfl rfl rfl pHop ?_
    rintro r S1 ⟨rfl, rfl⟩
    (repeat (first | refine r_end ?_ | (refine r_op ?_; first | refine r_pure hT rfl rfl rfl rfl rfl rfl ?_ | refine r_store hT rfl rfl rfl rfl rfl rfl rfl rfl rfl rfl ?_) | refine gi_seq ?_ | refine gi_plain_ne 23 rfl ?_))
    refine gi_weak (F' := [(8, I (i : Int)), (9, .box 1 0), (2, .box 0 0), (5, rsNd t), (6, .sl 0), (7, .sl 1)]) (H' := [hMf m, hRt x]) (S' := [eRt M, eBl B]) ⟨rfl, rfl, rfl, rfl, rfl, rfl, trivial⟩ ⟨rfl, by rw [hx]; rfl, trivial⟩ ⟨rfl, rfl, trivial⟩ rfl ?_
    clear hx
    (repeat (first | refine r_end ?_ | (refine r_op ?_; refine r_pure hT rfl rfl rfl rfl rfl rfl ?_) | refine gi_seq ?_ | refine gi_plain ?_ | refine gi_block ?_))
    apply gi_cut (σ := Nat) (fun a => [(15, I (a : Int)), (8, I (i : Int)), (9, .box 1 0), (2, .box 0 0), (5, rsNd t), (6, .sl 0), (7, .sl 1)]) (fun _ => [hMf m, hRt x]) (fun _ => [eRt M, eBl B]) (fun a => a ≤ M.length ∧ (∀ (u : Nat) y, u < a → M[u]? = some y → pbL y x) ∧ ∀ y, M[a]? = some y → ¬ pbL y x) (fun _ => rfl)
    case first =>
      intro fin
      refine gi_loop (σ := Nat) (fun a => [(15, I (a : Int)), (8, I (i : Int)), (9, .box 1 0), (2, .box 0 0), (5, rsNd t), (6, .sl 0), (7, .sl 1)]) (fun _ => [hMf m, hRt x]) (fun _ => [eRt M, eBl B]) (fun a => a ≤ M.length ∧ ∀ (u : Nat) y, u < a → M[u]? = some y → pbL y x) (fun a => M.length - a) 0 ⟨Nat.zero_le _, fun u y h => absurd h (Nat.not_lt_zero _)⟩ ⟨rfl, rfl, rfl, rfl, rfl, rfl, rfl, trivial⟩ ⟨rfl, rfl, trivial⟩ ⟨rfl, rfl, trivial⟩ (fun _ => rfl) (fun a ha next => ?_)
      obtain ⟨hal, hlt⟩ := ha
      (repeat (refine gi_seq ?_))
      refine gi_drawM [] [(0, .p), (1, .p), (2, .p), (3, .p), (4, .p), (5, .p), (6, .p), (7, .p), (8, .p), (10, .p), (9, .t), (11, .t), (12, .p), (13, .p), (14, .p), (15, .p), (16, .p), (17, .p), (19, .p), (18, .t), (20, .t), (21, .p), (22, .p), (23, .p), (24, .p), (25, .p), (26, .p), (28, .p), (27, .t), (29, .t), (30, .p), (31, .p), (32, .p), (33, .p)] [0, 0, 2, 5, 8, 16, 16, 112, 144, 272, 16, 1040, 2576, 4112, 8192, 8192, 57344, 73728, 139264, 8192, 532480, 1318912, 2105344, 4194304, 4194304, 29360128, 37748736, 71303168, 4194304, 272629760, 675282944, 1077944320, 2147491856, 4294967312] [0, 0, 2, 5, 8, 16, 16, 112, 144, 272, 16, 1040, 2576, 4112, 8192, 8192, 57344, 73728, 139264, 8192, 532480, 1318912, 2105344, 4194304, 4194304, 29360128, 37748736, 71303168, 4194304, 272629760, 675282944, 1077944320, 2147491856, 4294967312] Kt.hm rfl (by kernel_rfl) (fun w1 K => ?_)
      (repeat ((refine r_op ?_; refine r_pure hT rfl rfl rfl rfl rfl rfl ?_)))
      refine r_case (d := 108) rfl (fun c2 => ?_) (fun c2 => ?_)
      · rw [ltB_eq, List.length_map] at c2
        have hao : a < M.length := by have := of_decide_eq_true c2; omega
        obtain ⟨y, hy⟩ : ∃ y, M[a]? = some y := ⟨_, List.getElem?_eq_getElem hao⟩
        have more : pbL y x → ∀ F1 H1 S1, SubF [(15, I (wr .i64 ((a : Int) + 1))), (8, I (i : Int)), (9, .box 1 0), (2, .box 0 0), (5, rsNd t), (6, .sl 0), (7, .sl 1)] F1 → SubH [hMf m, hRt x] H1 → SubS [eRt M, eBl B] S1 → GI _ _ F1 H1 S1 := fun hb F1 H1 S1 hF hH hS => by
          refine next (a + 1) F1 H1 S1 ⟨hao, fun u z hu hz => ?_⟩ (by omega) ?_ hH hS
          · rcases Nat.lt_succ_iff_lt_or_eq.1 hu with hu | rfl
            · exact hlt u z hu hz
            · rw [hy] at hz; cases hz; exact hb
          · rw [wadd1 (by omega)] at hF
            exact hF
        clear next
        have hyr := row_at hy
        (repeat ((refine r_op ?_; refine r_pure hT rfl rfl rfl rfl rfl rfl ?_)))
        refine r_idxS hT rfl rfl rfl rfl rfl rfl rfl rfl rfl rfl rfl rfl rfl (nn a) (row_lt hao) ?_
        (repeat ((refine r_op ?_; refine r_pure hT rfl rfl rfl rfl rfl rfl ?_)))
        refine r_loadS (row := y.row) hT rfl rfl rfl rfl rfl rfl rfl rfl hyr rfl rfl rfl ?_
        (repeat ((refine r_op ?_; first | refine r_pure hT rfl rfl rfl rfl rfl rfl ?_ | refine r_load hT rfl rfl rfl rfl rfl rfl rfl rfl rfl ?_)))
        refine r_case (d := 117) rfl (fun c3 => ?_) (fun c3 => ?_)
        · rw [ltB_eq] at c3
          have c3 : y.p < x.p := of_decide_eq_true c3
          (repeat (first | refine r_end ?_ | (refine r_op ?_; first | refine r_pure hT rfl rfl rfl rfl rfl rfl ?_ | refine r_off rfl rfl rfl rfl rfl ?_) | refine gi_plain ?_ | refine gi_skip ?_ | refine gi_block ?_ | refine gi_inBlock ?_ | (refine gi_cnd ?_; first | refine gi_true rfl ?_ | refine gi_false rfl ?_)))
          exact more (.inl c3) _ _ _ ⟨rfl, rfl, rfl, rfl, rfl, rfl, rfl, trivial⟩ ⟨rfl, rfl, trivial⟩ ⟨rfl, rfl, trivial⟩
        · rw [ltB_eq] at c3
          have c3 : ¬ y.p < x.p := of_decide_eq_false c3
          (repeat ((refine r_op ?_; refine r_pure hT rfl rfl rfl rfl rfl rfl ?_)))
          refine r_idxS hT rfl rfl rfl rfl rfl rfl rfl rfl rfl rfl rfl rfl rfl (nn a) (row_lt hao) ?_
          (repeat ((refine r_op ?_; refine r_pure hT rfl rfl rfl rfl rfl rfl ?_)))
          refine r_loadS (row := y.row) hT rfl rfl rfl rfl rfl rfl rfl rfl hyr rfl rfl rfl ?_
          (repeat ((refine r_op ?_; first | refine r_pure hT rfl rfl rfl rfl rfl rfl ?_ | refine r_load hT rfl rfl rfl rfl rfl rfl rfl rfl rfl ?_)))
          refine r_case (d := 126) rfl (fun c4 => ?_) (fun c4 => ?_)
          · rw [eqB_eq] at c4
            have c4 : y.p = x.p := of_decide_eq_true c4
            (repeat ((refine r_op ?_; refine r_pure hT rfl rfl rfl rfl rfl rfl ?_)))
            refine r_idxS hT rfl rfl rfl rfl rfl rfl rfl rfl rfl rfl rfl rfl rfl (nn a) (row_lt hao) ?_
            (repeat ((refine r_op ?_; refine r_pure hT rfl rfl rfl rfl rfl rfl ?_)))
            refine r_loadS (row := y.row) hT rfl rfl rfl rfl rfl rfl rfl rfl hyr rfl rfl rfl ?_
            (repeat (first | refine r_end ?_ | (refine r_op ?_; first | refine r_pure hT rfl rfl rfl rfl rfl rfl ?_ | refine r_load hT rfl rfl rfl rfl rfl rfl rfl rfl rfl ?_)))
            refine gi_lt (p := y.b) (q := x.b) rfl (fun c5 => ?_) (fun c5 => ?_)
            · (repeat (first | refine r_end ?_ | (refine r_op ?_; refine r_pure hT rfl rfl rfl rfl rfl rfl ?_) | refine gi_plain ?_ | refine gi_skip ?_ | refine gi_block ?_ | refine gi_inBlock ?_))
              exact more (.inr ⟨c4, c5⟩) _ _ _ ⟨rfl, rfl, rfl, rfl, rfl, rfl, rfl, trivial⟩ ⟨rfl, rfl, trivial⟩ ⟨rfl, rfl, trivial⟩
            · (repeat (first | refine gi_seq ?_ | refine gi_exit rfl ?_))
              exact fin a _ _ _ ⟨hal, hlt, fun z hz h => by rw [hy] at hz; cases hz; unfold pbL at h; omega⟩ ⟨rfl, rfl, rfl, rfl, rfl, rfl, rfl, trivial⟩ ⟨rfl, rfl, trivial⟩ ⟨rfl, rfl, trivial⟩
          · rw [eqB_eq] at c4
            have c4 : ¬ y.p = x.p := of_decide_eq_false c4
            (repeat (first | refine r_end ?_ | (refine r_op ?_; first | refine r_pure hT rfl rfl rfl rfl rfl rfl ?_ | refine r_off rfl rfl rfl rfl rfl ?_) | refine gi_seq ?_ | refine gi_exit rfl ?_ | (refine gi_cnd ?_; first | refine gi_true rfl ?_ | refine gi_false rfl ?_)))
            exact fin a _ _ _ ⟨hal, hlt, fun z hz h => by rw [hy] at hz; cases hz; unfold pbL at h; omega⟩ ⟨rfl, rfl, rfl, rfl, rfl, rfl, rfl, trivial⟩ ⟨rfl, rfl, trivial⟩ ⟨rfl, rfl, trivial⟩
      · rw [ltB_eq, List.length_map] at c2
        have hao : ¬ a < M.length := by have := of_decide_eq_false c2; omega
        (repeat (first | refine r_end ?_ | (refine r_op ?_; first | refine r_pure hT rfl rfl rfl rfl rfl rfl ?_ | refine r_off rfl rfl rfl rfl rfl ?_) | refine gi_seq ?_ | refine gi_exit rfl ?_ | (refine gi_cnd ?_; first | refine gi_true rfl ?_ | refine gi_false rfl ?_)))
        exact fin a _ _ _ ⟨hal, hlt, fun z hz => by have := (List.getElem?_eq_some_iff.1 hz).1; omega⟩ ⟨rfl, rfl, rfl, rfl, rfl, rfl, rfl, trivial⟩ ⟨rfl, rfl, trivial⟩ ⟨rfl, rfl, trivial⟩
    case after =>
    rintro a ⟨hal, hlt, hge⟩
    have hat := insT_at hal hlt hge
    rw [← hins] at hat
    apply gi_cut (σ := Unit) (fun _ => [(15, I (a : Int)), (8, I (i : Int)), (9, .box 1 0), (2, .box 0 0), (5, rsNd t), (6, .sl 0), (7, .sl 1)]) (fun _ => [hMf m, hRt x]) (fun _ => [eRt M, eBl B]) (fun _ => ∀ y, M[a]? = some y → ¬ pbE y x) (fun _ => rfl)
    case first =>
      intro fin
      skip
      refine gi_drawM [] [(0, .p), (1, .p), (2, .p), (3, .p), (4, .p), (5, .p), (6, .p), (7, .p), (8, .p), (10, .p), (9, .t), (11, .t), (12, .p), (13, .p), (14, .p), (15, .p), (16, .p), (17, .p), (18, .p), (20, .p), (19, .t), (21, .t), (22, .p), (23, .p)] [0, 0, 2, 5, 8, 16, 16, 112, 144, 272, 16, 1040, 2576, 4112, 8208, 16384, 16384, 114688, 147456, 278528, 16384, 1064960, 2637824, 4210688] [0, 0, 2, 5, 8, 16, 16, 112, 144, 272, 16, 1040, 2576, 4112, 8192, 16384, 16384, 114688, 147456, 278528, 16384, 1064960, 2637824, 4210688] Kt.hm rfl (by kernel_rfl) (fun w1 K => ?_)
      (repeat ((refine r_op ?_; refine r_pure hT rfl rfl rfl rfl rfl rfl ?_)))
      refine r_case (d := 144) rfl (fun c2 => ?_) (fun c2 => ?_)
      · rw [ltB_eq, List.length_map] at c2
        have hao : a < M.length := by have := of_decide_eq_true c2; omega
        obtain ⟨y, hy⟩ : ∃ y, M[a]? = some y := ⟨_, List.getElem?_eq_getElem hao⟩
        have hyr := row_at hy
        rw [hy] at hat
        simp only at hat
        (repeat ((refine r_op ?_; refine r_pure hT rfl rfl rfl rfl rfl rfl ?_)))
        refine r_idxS hT rfl rfl rfl rfl rfl rfl rfl rfl rfl rfl rfl rfl rfl (nn a) (row_lt hao) ?_
        (repeat ((refine r_op ?_; refine r_pure hT rfl rfl rfl rfl rfl rfl ?_)))
        refine r_loadS (row := y.row) hT rfl rfl rfl rfl rfl rfl rfl rfl hyr rfl rfl rfl ?_
        (repeat ((refine r_op ?_; first | refine r_pure hT rfl rfl rfl rfl rfl rfl ?_ | refine r_load hT rfl rfl rfl rfl rfl rfl rfl rfl rfl ?_)))
        refine r_case (d := 154) rfl (fun c3 => ?_) (fun c3 => ?_)
        · rw [eqB_eq] at c3
          have c3 : y.p = x.p := of_decide_eq_true c3
          (repeat ((refine r_op ?_; refine r_pure hT rfl rfl rfl rfl rfl rfl ?_)))
          refine r_idxS hT rfl rfl rfl rfl rfl rfl rfl rfl rfl rfl rfl rfl rfl (nn a) (row_lt hao) ?_
          (repeat ((refine r_op ?_; refine r_pure hT rfl rfl rfl rfl rfl rfl ?_)))
          refine r_loadS (row := y.row) hT rfl rfl rfl rfl rfl rfl rfl rfl hyr rfl rfl rfl ?_
          (repeat (first | refine r_end ?_ | (refine r_op ?_; first | refine r_pure hT rfl rfl rfl rfl rfl rfl ?_ | refine r_load hT rfl rfl rfl rfl rfl rfl rfl rfl rfl ?_)))
          refine gi_eq (p := y.b) (q := x.b) rfl (fun c4 => ?_) (fun c4 => ?_)
          · rw [if_pos (show pbE y x from ⟨c3, c4⟩)] at hat
            obtain ⟨f, hf⟩ : ∃ f, B[a]? = some f := ⟨_, List.getElem?_eq_getElem (by omega)⟩
            have hfr : (B.map bRow)[((a : Nat) : Int).toNat]? = some (bRow f) := by rw [Int.toNat_natCast, List.getElem?_map, hf]; rfl
            have hal2 : ((a : Nat) : Int).toNat < (B.map bRow).length := by rw [Int.toNat_natCast, List.length_map]; omega
            (repeat (refine gi_seq ?_))
            refine gi_drawM [] [(1, .p), (2, .p), (3, .p), (5, .p), (6, .p), (10, .p), (11, .p), (12, .p), (0, .t), (4, .t), (7, .t), (8, .p), (9, .p), (13, .t), (14, .o)] [0, 0, 0, 6, 8, 0, 0, 64, 128, 288, 0, 0, 3072, 4096, 8721] [0, 0, 0, 6, 8, 0, 0, 64, 128, 288, 0, 0, 3072, 4096, 8721] Kt.hm rfl (by kernel_rfl) (fun w1 K => ?_)
            (repeat ((refine r_op ?_; refine r_pure hT rfl rfl rfl rfl rfl rfl ?_)))
            refine r_idxS hT rfl rfl rfl rfl rfl rfl rfl rfl rfl rfl rfl rfl rfl (nn a) (row_lt hao) ?_
            (repeat ((refine r_op ?_; refine r_pure hT rfl rfl rfl rfl rfl rfl ?_)))
            refine r_idxS hT rfl rfl rfl rfl rfl rfl rfl rfl rfl rfl rfl rfl rfl (nn a) hal2 ?_
            (repeat ((refine r_op ?_; refine r_load hT rfl rfl rfl rfl rfl rfl rfl rfl rfl ?_)))
            refine r_loadS (row := y.row) hT rfl rfl rfl rfl rfl rfl rfl rfl hyr rfl rfl rfl ?_
            (repeat ((refine r_op ?_; first | refine r_pure hT rfl rfl rfl rfl rfl rfl ?_ | refine r_load hT rfl rfl rfl rfl rfl rfl rfl rfl rfl ?_)))
            refine r_loadS (row := bRow f) hT rfl rfl rfl rfl rfl rfl rfl rfl hfr rfl rfl rfl ?_
            skip
            refine r_call (better17_ok x y (ltB (i : Int) ((m.sn.map Sn.row).length : Int)) f (fun h => hR.sp (by rw [ltB_eq, List.length_map] at h; have := of_decide_eq_true h; omega) f (List.mem_of_getElem? hf))) rfl rfl rfl rfl rfl rfl rfl rfl Try.func70 rfl rfl rfl pB ?_
            rintro r S1 ⟨rfl, rfl⟩
            (repeat (refine r_end ?_))
            refine gi_lt (p := x.c) (q := y.c) rfl (fun c5 => ?_) (fun c5 => ?_)
            · rw [if_pos c5] at hat
              (repeat (first | (refine r_op ?_; first | refine r_pure hT rfl rfl rfl rfl rfl rfl ?_ | refine r_load hT rfl rfl rfl rfl rfl rfl rfl rfl rfl ?_) | refine gi_seq ?_ | refine gi_plain ?_))
              refine r_idxS hT rfl rfl rfl rfl rfl rfl rfl rfl rfl rfl rfl rfl rfl (nn a) (row_lt hao) ?_
              skip
              refine r_storeS (row := y.row) hT rfl rfl rfl rfl rfl rfl rfl rfl rfl rfl rfl rfl rfl hyr ?_
              (repeat (first | refine r_end ?_ | (refine r_op ?_; first | refine r_pure hT rfl rfl rfl rfl rfl rfl ?_ | refine r_load hT rfl rfl rfl rfl rfl rfl rfl rfl rfl ?_) | refine gi_plain ?_))
              refine r_idxS hT rfl rfl rfl rfl rfl rfl rfl rfl rfl rfl rfl rfl rfl (nn a) hal2 ?_
              skip
              refine r_storeS (row := bRow f) hT rfl rfl rfl rfl rfl rfl rfl rfl rfl rfl rfl rfl rfl hfr ?_
              (repeat (first | refine r_end ?_ | (refine r_op ?_; refine r_pure hT rfl rfl rfl rfl rfl rfl ?_) | refine gi_plain ?_ | refine gi_exit rfl ?_))
              refine on (M.set a x) (B.set a (ltB (i : Int) ((m.sn.map Sn.row).length : Int))) ⟨hat.symm, by rw [List.length_set, List.length_set]; exact hBl, fun h b hb => ?_⟩ _ _ _ ⟨rfl, rfl, rfl, rfl, rfl, trivial⟩ ⟨rfl, trivial⟩ ⟨?_, ?_, trivial⟩
              · rcases List.mem_or_eq_of_mem_set hb with hb | hb
                · exact hR.sp (by omega) b hb
                · rw [hb, ltB_eq, List.length_map]; exact decide_eq_true (by omega)
              · refine congrArg (fun L => some (⟨67, 5, L, false⟩ : SE)) ?_
                show (M.set a x).map Rt.row = List.set (M.map Rt.row) ((a : Nat) : Int).toNat x.row
                rw [Int.toNat_natCast, set_row]
              · refine congrArg (fun L => some (⟨4, 1, L, false⟩ : SE)) ?_
                show (B.set a _).map bRow = List.set (B.map bRow) ((a : Nat) : Int).toNat (bRow _)
                rw [Int.toNat_natCast, List.map_set]
            · rw [if_neg c5] at hat
              (repeat (first | refine r_end ?_ | (refine r_op ?_; refine r_pure hT rfl rfl rfl rfl rfl rfl ?_) | refine gi_plain ?_ | refine gi_skip ?_ | refine gi_exit rfl ?_))
              exact on M B ⟨hat.symm, hBl, fun h => hR.sp (by omega)⟩ _ _ _ ⟨rfl, rfl, rfl, rfl, rfl, trivial⟩ ⟨rfl, trivial⟩ ⟨rfl, rfl, trivial⟩
          · (repeat (first | refine gi_seq ?_ | refine gi_skip ?_))
            exact fin () _ _ _ (fun z hz h => by rw [hy] at hz; cases hz; exact c4 h.2) ⟨rfl, rfl, rfl, rfl, rfl, rfl, rfl, trivial⟩ ⟨rfl, rfl, trivial⟩ ⟨rfl, rfl, trivial⟩
        · rw [eqB_eq] at c3
          have c3 : ¬ y.p = x.p := of_decide_eq_false c3
          (repeat (first | refine r_end ?_ | (refine r_op ?_; first | refine r_pure hT rfl rfl rfl rfl rfl rfl ?_ | refine r_off rfl rfl rfl rfl rfl ?_) | refine gi_seq ?_ | refine gi_skip ?_ | (refine gi_cnd ?_; first | refine gi_true rfl ?_ | refine gi_false rfl ?_)))
          exact fin () _ _ _ (fun z hz h => by rw [hy] at hz; cases hz; exact c3 h.1) ⟨rfl, rfl, rfl, rfl, rfl, rfl, rfl, trivial⟩ ⟨rfl, rfl, trivial⟩ ⟨rfl, rfl, trivial⟩
      · rw [ltB_eq, List.length_map] at c2
        have hao : ¬ a < M.length := by have := of_decide_eq_false c2; omega
        (repeat (first | refine r_end ?_ | (refine r_op ?_; first | refine r_pure hT rfl rfl rfl rfl rfl rfl ?_ | refine r_off rfl rfl rfl rfl rfl ?_) | refine gi_seq ?_ | refine gi_skip ?_ | (refine gi_cnd ?_; first | refine gi_true rfl ?_ | refine gi_false rfl ?_)))
        exact fin () _ _ _ (fun z hz => by have := (List.getElem?_eq_some_iff.1 hz).1; omega) ⟨rfl, rfl, rfl, rfl, rfl, rfl, rfl, trivial⟩ ⟨rfl, rfl, trivial⟩ ⟨rfl, rfl, trivial⟩
    case after =>
    intro _ hne
    have hat' : refR (rawE t ((ents m).take (i + 1))) = M.take a ++ x :: M.drop a := by
      cases hy : M[a]? with
      | none => rw [hy] at hat; exact hat
      | some y => rw [hy] at hat; simp only at hat; rw [if_neg (hne y hy)] at hat; exact hat
    (repeat (first | (refine r_op ?_; first | refine r_pure hT rfl rfl rfl rfl rfl rfl ?_ | refine r_lit hT rfl rfl rfl rfl rfl rfl rfl rfl rfl rfl rfl rfl rfl ?_) | refine gi_plain ?_))
    refine r_append hT rfl rfl rfl rfl rfl rfl rfl rfl rfl rfl rfl rfl rfl rfl rfl rfl rfl ?_ ?_
    · simp only [List.length_cons, List.length_nil, List.length_map, maxLen]
      constructor
      · omega
      · show _ * 40 ≤ _
        omega
    (repeat (first | refine r_end ?_ | (refine r_op ?_; refine r_pure hT rfl rfl rfl rfl rfl rfl ?_) | refine gi_seq ?_))
    refine gi_pick [0, 1] [0, 1] rfl rfl rfl rfl rfl ?_
    (repeat (first | (refine r_op ?_; first | refine r_pure hT rfl rfl rfl rfl rfl rfl ?_ | refine r_lit hT rfl rfl rfl rfl rfl rfl rfl rfl rfl rfl rfl rfl rfl ?_) | refine gi_plain ?_))
    refine r_append hT rfl rfl rfl rfl rfl rfl rfl rfl rfl rfl rfl rfl rfl rfl rfl rfl rfl ?_ ?_
    · simp only [List.length_cons, List.length_nil, List.length_map, maxLen]
      constructor
      · omega
      · show _ * 1 ≤ _
        omega
    (repeat (first | refine r_end ?_ | (refine r_op ?_; refine r_pure hT rfl rfl rfl rfl rfl rfl ?_) | refine gi_seq ?_))
    refine gi_pick [0, 1] [0, 1] rfl rfl rfl rfl rfl ?_
    (repeat (first | refine r_end ?_ | (refine r_op ?_; refine r_pure hT rfl rfl rfl rfl rfl rfl ?_) | refine gi_plain ?_ | refine gi_block ?_))
    have hMr : (M.map Rt.row).length = M.length := List.length_map _
    have hBr : (B.map bRow).length = M.length := by rw [List.length_map]; exact hBl
    have hLR : ∀ k, k ≤ M.length → ((M.map Rt.row ++ [zRr]).take (k + 1) ++ (M.map Rt.row).drop k).length = M.length + 1 := fun k hk => by simp; omega
    have hLB : ∀ k, k ≤ M.length → ((B.map bRow ++ [bRow false]).take (k + 1) ++ (B.map bRow).drop k).length = M.length + 1 := fun k hk => by simp; omega
    refine gi_loop (σ := Nat) (fun k => [(16, I (k : Int)), (15, I (a : Int)), (8, I (i : Int)), (9, .box 1 0), (2, .box 0 0), (5, rsNd t), (6, .sl 0), (7, .sl 1)]) (fun _ => [hMf m, hRt x]) (fun k => [eRr ((M.map Rt.row ++ [zRr]).take (k + 1) ++ (M.map Rt.row).drop k), eBr ((B.map bRow ++ [bRow false]).take (k + 1) ++ (B.map bRow).drop k)]) (fun k => a ≤ k ∧ k ≤ M.length) (fun k => k) M.length ⟨hal, Nat.le_refl _⟩ ⟨?_, rfl, rfl, rfl, rfl, rfl, rfl, rfl, trivial⟩ ⟨rfl, rfl, trivial⟩ ⟨?_, ?_, trivial⟩ (fun _ => rfl) (fun k hk next => ?_)
    · show some (I (wr .i64 (((M.map Rt.row ++ [zRr]).length : Int) - 1))) = some (I (M.length : Int))
      rw [List.length_append, hMr, show ([zRr] : List (List RV)).length = 1 from rfl, wsub1 (by omega)]
    · show eRr _ = eRr _
      rw [← hMr, sh0]
    · show eBr _ = eBr _
      rw [← hBr, sh0]
    obtain ⟨hk1, hk2⟩ := hk
    (repeat (first | refine r_end ?_ | (refine r_op ?_; refine r_pure hT rfl rfl rfl rfl rfl rfl ?_) | refine gi_seq ?_ | refine gi_plain ?_))
    refine gi_lt (p := (a : Int)) (q := (k : Int)) rfl (fun h4 => ?_) (fun h4 => ?_)
    · obtain ⟨k', rfl⟩ : ∃ k', k = k' + 1 := ⟨k - 1, by omega⟩
      have hko : k' < M.length := by omega
      obtain ⟨y, hy⟩ : ∃ y, M[k']? = some y := ⟨_, List.getElem?_eq_getElem hko⟩
      obtain ⟨f, hf⟩ : ∃ f, B[k']? = some f := ⟨_, List.getElem?_eq_getElem (by omega)⟩
      have hyr : (M.map Rt.row)[k']? = some y.row := row_get hy
      have hfr : (B.map bRow)[k']? = some (bRow f) := by rw [List.getElem?_map, hf]; rfl
      have e1 := wsub1 (a := k') (by omega)
      obtain ⟨ro, hro, hso⟩ := sh_any (R := M.map Rt.row) (z := zRr) (k := k' + 1) rt_len rfl (by omega)
      obtain ⟨rb, hrb, hsb'⟩ := sh_any (R := B.map bRow) (z := bRow false) (k := k' + 1) bl_len rfl (by omega)
      (repeat (first | (refine r_op ?_; refine r_pure hT rfl rfl rfl rfl rfl rfl ?_) | refine gi_seq ?_ | refine gi_plain ?_ | refine gi_skip ?_ | refine gi_block ?_))
      refine r_turn (d := 210) (y := I (k' : Int)) rfl (by rw [e1]) ?_
      refine r_idxS hT rfl rfl rfl rfl rfl rfl rfl rfl rfl rfl rfl rfl rfl (nn k') (by show ((k' : Nat) : Int).toNat < List.length _; rw [Int.toNat_natCast, hLR _ hk2]; omega) ?_
      skip
      refine r_loadS (row := y.row) hT rfl rfl rfl rfl rfl rfl rfl rfl (by show (List.append _ _)[((k' : Nat) : Int).toNat]? = _; rw [Int.toNat_natCast]; exact (sh_get1 (by rw [hMr]; exact hko)).trans hyr) rfl rfl rfl ?_
      skip
      refine r_idxS hT rfl rfl rfl rfl rfl rfl rfl rfl rfl rfl rfl rfl rfl (nn (k' + 1)) (by show ((k' + 1 : Nat) : Int).toNat < List.length _; rw [Int.toNat_natCast, hLR _ hk2]; omega) ?_
      skip
      refine r_storeS (row := ro) hT rfl rfl rfl rfl rfl rfl rfl rfl rfl rfl rfl rfl rfl (by show (List.append _ _)[((k' + 1 : Nat) : Int).toNat]? = _; rw [Int.toNat_natCast]; exact hro) ?_
      (repeat (first | refine r_end ?_ | (refine r_op ?_; refine r_pure hT rfl rfl rfl rfl rfl rfl ?_) | refine gi_plain ?_))
      refine r_turn (d := 218) (y := I (k' : Int)) rfl (by rw [e1]) ?_
      refine r_idxS hT rfl rfl rfl rfl rfl rfl rfl rfl rfl rfl rfl rfl rfl (nn k') (by show ((k' : Nat) : Int).toNat < List.length _; rw [Int.toNat_natCast, hLB _ hk2]; omega) ?_
      skip
      refine r_loadS (row := bRow f) hT rfl rfl rfl rfl rfl rfl rfl rfl (by show (List.append _ _)[((k' : Nat) : Int).toNat]? = _; rw [Int.toNat_natCast]; exact (sh_get1 (by rw [hBr]; exact hko)).trans hfr) rfl rfl rfl ?_
      skip
      refine r_idxS hT rfl rfl rfl rfl rfl rfl rfl rfl rfl rfl rfl rfl rfl (nn (k' + 1)) (by show ((k' + 1 : Nat) : Int).toNat < List.length _; rw [Int.toNat_natCast, hLB _ hk2]; omega) ?_
      skip
      refine r_storeS (row := rb) hT rfl rfl rfl rfl rfl rfl rfl rfl rfl rfl rfl rfl rfl (by show (List.append _ _)[((k' + 1 : Nat) : Int).toNat]? = _; rw [Int.toNat_natCast]; exact hrb) ?_
      (repeat (first | refine r_end ?_ | (refine r_op ?_; refine r_pure hT rfl rfl rfl rfl rfl rfl ?_) | refine gi_plain ?_ | refine gi_inBlock ?_))
      refine next k' _ _ _ ⟨by omega, by omega⟩ (by omega) ⟨?_, rfl, rfl, rfl, rfl, rfl, rfl, rfl, trivial⟩ ⟨rfl, rfl, trivial⟩ ⟨?_, ?_, trivial⟩
      · show some (I (wr .i64 (((k' + 1 : Nat) : Int) - 1))) = _
        rw [e1]
      · refine congrArg (fun L => some (⟨67, 5, L, false⟩ : SE)) ?_
        symm
        show List.set (List.append _ _) ((k' + 1 : Nat) : Int).toNat (setR ro 0 y.row) = _
        rw [Int.toNat_natCast, hso y.row rfl]
        exact sh_step hyr
      · refine congrArg (fun L => some (⟨4, 1, L, false⟩ : SE)) ?_
        symm
        show List.set (List.append _ _) ((k' + 1 : Nat) : Int).toNat (setR rb 0 (bRow f)) = _
        rw [Int.toNat_natCast, hsb' (bRow f) rfl]
        exact sh_step hfr
    · have hka : k = a := by omega
      subst hka
      clear next
      obtain ⟨ro, hro, hso⟩ := sh_any (R := M.map Rt.row) (z := zRr) (k := k) rt_len rfl (by omega)
      obtain ⟨rb, hrb, hsb'⟩ := sh_any (R := B.map bRow) (z := bRow false) (k := k) bl_len rfl (by omega)
      (repeat (first | (refine r_op ?_; first | refine r_pure hT rfl rfl rfl rfl rfl rfl ?_ | refine r_load hT rfl rfl rfl rfl rfl rfl rfl rfl rfl ?_) | refine gi_seq ?_ | refine gi_plain ?_ | refine gi_exit rfl ?_))
      refine r_idxS hT rfl rfl rfl rfl rfl rfl rfl rfl rfl rfl rfl rfl rfl (nn k) (by show ((k : Nat) : Int).toNat < List.length _; rw [Int.toNat_natCast, hLR _ hk2]; omega) ?_
      skip
      refine r_storeS (row := ro) hT rfl rfl rfl rfl rfl rfl rfl rfl rfl rfl rfl rfl rfl (by show (List.append _ _)[((k : Nat) : Int).toNat]? = _; rw [Int.toNat_natCast]; exact hro) ?_
      (repeat (first | refine r_end ?_ | (refine r_op ?_; first | refine r_pure hT rfl rfl rfl rfl rfl rfl ?_ | refine r_load hT rfl rfl rfl rfl rfl rfl rfl rfl rfl ?_) | refine gi_plain ?_))
      refine r_idxS hT rfl rfl rfl rfl rfl rfl rfl rfl rfl rfl rfl rfl rfl (nn k) (by show ((k : Nat) : Int).toNat < List.length _; rw [Int.toNat_natCast, hLB _ hk2]; omega) ?_
      skip
      refine r_storeS (row := rb) hT rfl rfl rfl rfl rfl rfl rfl rfl rfl rfl rfl rfl rfl (by show (List.append _ _)[((k : Nat) : Int).toNat]? = _; rw [Int.toNat_natCast]; exact hrb) ?_
      (repeat (first | refine r_end ?_ | (refine r_op ?_; refine r_pure hT rfl rfl rfl rfl rfl rfl ?_) | refine gi_plain ?_ | refine gi_inBlock ?_))
      refine on (M.take k ++ x :: M.drop k) (B.take k ++ (ltB (i : Int) ((m.sn.map Sn.row).length : Int)) :: B.drop k) ⟨hat'.symm, by simp only [List.length_append, List.length_cons, List.length_take, List.length_drop]; omega, fun h b hb => ?_⟩ _ _ _ ⟨rfl, rfl, rfl, rfl, rfl, trivial⟩ ⟨rfl, trivial⟩ ⟨?_, ?_, trivial⟩
      · rcases List.mem_append.1 hb with hb | hb
        · exact hR.sp (by omega) b (List.mem_of_mem_take hb)
        · rcases List.mem_cons.1 hb with hb | hb
          · rw [hb, ltB_eq, List.length_map]; exact decide_eq_true (by omega)
          · exact hR.sp (by omega) b (List.mem_of_mem_drop hb)
      · refine congrArg (fun L => some (⟨67, 5, L, false⟩ : SE)) ?_
        show (M.take k ++ x :: M.drop k).map Rt.row = List.set (List.append _ _) ((k : Nat) : Int).toNat (setR ro 0 x.row)
        rw [Int.toNat_natCast, hso x.row rfl]
        refine Eq.trans ?_ (sh_end (by rw [hMr]; exact hk2)).symm
        simp
      · refine congrArg (fun L => some (⟨4, 1, L, false⟩ : SE)) ?_
        show (B.take k ++ _ :: B.drop k).map bRow = List.set (List.append _ _) ((k : Nat) : Int).toNat (setR rb 0 (bRow _))
        rw [Int.toNat_natCast, hsb' (bRow _) rfl]
        refine Eq.trans ?_ (sh_end (by rw [hBr]; exact hk2)).symm
        simp
  · rw [hq] at h3
    have hil : i = m.sn.length + m.sb.length := by omega
    have heq := hR.eq
    rw [List.take_of_length_le (by omega), ← raw_ents] at heq
    (repeat (first | refine r_end ?_ | (refine r_op ?_; refine r_pure hT rfl rfl rfl rfl rfl rfl ?_) | refine gi_seq ?_ | refine gi_plain ?_ | refine gi_exit rfl ?_))
    refine gi_retX hT Try.func31 rfl [] [0] rfl rfl rfl rfl rfl rfl rfl rfl ?_
    exact ⟨rfl, rfl, by rw [heq]⟩
end Go.Proofs.Ytmocggibcniggaa.Kt
namespace Go.Proofs.Ytmocggibcniggaa.Kt
open Go Kw Go.Proofs
attribute [local irreducible] Kw.GI Kw.GR Kw.FnR Kw.FnX Kw.FnI
set_option maxHeartbeats 16000000
set_option maxRecDepth 100000
/-- The routes of a router: what both sides tell. -/
abbrev rtsL (l : List Ls) (self : Int) : List Rt := refR (rawL l self)
abbrev RFx (L : List Rt) : AV → Hp → Sp → Prop := fun r H S => r = fsRt L ∧ H = [] ∧ S = []
theorem RoutesF (l : List Ls) (self : Int) (hf : Few l) : FnX Try.prog 30 [avMf (mapL l), I self] [] [] (RFx (rtsL l self)) :=
  FnX.mono (RoutesL l self hf) (by
    rintro r H S ⟨rfl, rfl, L', rfl, h⟩
    have := (RtOk.told h).uniq (told_ref (rawL l self))
    subst this
    exact ⟨rfl, rfl, rfl⟩)
theorem pFx {L : List Rt} : ∀ r H1 S1, RFx L r H1 S1 → stA r = true ∧ StH H1 ∧ StS S1 := by
  rintro r H S ⟨rfl, rfl, rfl⟩
  exact ⟨stLL_Rt L, StH.nil, stS_nil⟩
theorem rts_len {l : List Ls} (hf : Few l) (self : Int) : (rtsL l self).length < 10000000 := by
  have hsn : (mapL l).sn.length ≤ 2000 := by
    have := flat_len (snF_len l) (vertsL l)
    have hvl : (vertsL l).length ≤ 2000 := map_vs hf
    show ((vertsL l).flatMap (snF l)).length ≤ _
    omega
  have hsb : (mapL l).sb.length ≤ 2000000 := by
    have := flat_len (fun v => sbF_len hf v) (vertsL l)
    have hvl : (vertsL l).length ≤ 2000 := map_vs hf
    show ((vertsL l).flatMap (sbF l)).length ≤ _
    omega
  have h1 := refR_len (rawL l self)
  have h2 := rawE_len (refTree (mapL l) ⟨1, self⟩) (ents (mapL l))
  rw [← raw_ents] at h2
  have hel : (ents (mapL l)).length = (mapL l).sn.length + (mapL l).sb.length := by unfold ents; rw [List.length_append, List.length_map, List.length_map]
  show (refR (rawL l self)).length < _
  unfold rawL at *
  omega
theorem RouteGraphs_ok (n : Int) (hn : 0 ≤ n ∧ n ≤ 255) (ps qs : List Int) (hps : ∀ p ∈ ps, 0 ≤ p ∧ p ≤ 255) (hqs : ∀ p ∈ qs, 0 ≤ p ∧ p ≤ 255) (one : List Bool) : FnR Try.prog 5 [u8 n, rs8 ps, rs8 qs, rsB one] (RB true) := by
  refine fnR_intro (T := TT) (n := 34) Try.func5 rfl rfl rfl (fun w Z => ?_)
  (repeat (first | refine r_end ?_ | (refine r_op ?_; refine r_pure hT rfl rfl rfl rfl rfl rfl ?_) | refine gi_seq ?_ | refine gi_plain ?_))
  refine r_callX [] [] (Graph_ok n hn ps qs hps hqs one) rfl rfl rfl rfl rfl rfl Try.func28 rfl rfl rfl rfl rfl rfl rfl pG ?_
  rintro r H1 S1 ⟨l, hl, rfl, rfl, rfl⟩
  have hf := hl.few
  refine r_freeze 0 rfl (frz_seO l) ?_
  skip
  refine r_call (MapF l hf) rfl rfl rfl rfl rfl rfl rfl rfl Try.func15 rfl rfl rfl pMapP ?_
  rintro r S1 ⟨rfl, rfl⟩
  (repeat (first | refine r_end ?_ | (refine r_op ?_; first | refine r_store hT rfl rfl rfl rfl rfl rfl rfl rfl rfl rfl ?_ | refine r_alloc hT rfl rfl rfl rfl rfl rfl rfl rfl rfl ?_) | refine gi_seq ?_))
  refine gi_freeze 1 (L' := (mapL l).vs.map Vt.row) rfl rfl ?_
  refine gi_freeze 2 (L' := (mapL l).es.map Eg.row) rfl rfl ?_
  refine gi_freeze 3 (L' := (mapL l).sb.map Sb.row) rfl rfl ?_
  refine gi_freeze 4 (L' := (mapL l).sn.map Sn.row) rfl rfl ?_
  refine gi_freeze 5 (L' := (mapL l).wl.map nRow) rfl rfl ?_
  refine gi_weak (F' := [(9, .box 0 0), (0, u8 n)]) (H' := [hMf (mapL l)]) (S' := []) ⟨rfl, rfl, trivial⟩ ⟨rfl, trivial⟩ trivial rfl ?_
  (repeat (first | refine r_end ?_ | (refine r_op ?_; refine r_pure hT rfl rfl rfl rfl rfl rfl ?_) | refine gi_plain ?_ | refine gi_block ?_))
  refine gi_loop (σ := Nat) (fun i => [(10, I (i : Int)), (9, .box 0 0), (0, u8 n)]) (fun _ => [hMf (mapL l)]) (fun _ => []) (fun i => i ≤ 7) (fun i => 7 - i) 1 (by decide) ⟨rfl, rfl, rfl, trivial⟩ ⟨rfl, trivial⟩ trivial (fun _ => rfl) (fun i hi next => ?_)
  have hi : i ≤ 7 := hi
  have hr := rm_pos (x := n) (y := 6) hn.1
  (repeat (first | refine r_end ?_ | (refine r_op ?_; refine r_pure hT rfl rfl rfl rfl rfl rfl ?_) | refine gi_seq ?_ | refine gi_plain ?_))
  refine gi_le rfl (fun h3 => ?_) (fun h3 => ?_)
  · have h3' : i < 7 := by
      rw [wr_i64 (n := n) (by omega) (by omega), wr_i64 (by omega) (by omega)] at h3
      omega
    (repeat (first | refine gi_seq ?_ | refine gi_skip ?_ | refine gi_block ?_))
    refine gi_drawT 1 false 8 [] [(1, .p), (4, .p), (0, .t), (3, .t), (2, .o), (5, .o), (6, .o), (7, .p)] .it Kt.hm rfl (by kernel_rfl) (fun w1 K => ?_)
    (repeat ((refine r_op ?_; first | refine r_pure hT rfl rfl rfl rfl rfl rfl ?_ | refine r_load hT rfl rfl rfl rfl rfl rfl rfl rfl rfl ?_)))
    refine r_callXz [] [] (RoutesF l i hf) rfl rfl rfl rfl rfl rfl Try.func30 rfl rfl rfl rfl rfl rfl rfl rfl rfl rfl rfl pFx ?_
    rintro r H1 S1 ⟨rfl, rfl, rfl⟩
    skip
    refine r_thaw 27 rfl ?_
    refine r_callXz [] [] (rRoutes_ok l i hf) rfl rfl rfl rfl rfl rfl Try.func31 rfl rfl rfl rfl rfl rfl rfl rfl rfl rfl rfl pCp ?_
    rintro r H1 S1 ⟨rfl, rfl, rfl⟩
    skip
    refine r_freezeZ 0 rfl rfl rfl ?_
    refine r_thaw 30 rfl ?_
    refine r_call (Same_ok (rtsL l i) (by have := rts_len hf i; omega)) rfl rfl rfl rfl rfl rfl rfl rfl Try.func29 rfl rfl rfl pB ?_
    rintro r S1 ⟨rfl, rfl⟩
    (repeat (first | refine r_end ?_ | (refine r_op ?_; refine r_pure hT rfl rfl rfl rfl rfl rfl ?_)))
    refine gi_known (d := 32) (b := false) rfl (by rw [notB_eq]; rfl) ?_
    (repeat (first | refine r_end ?_ | (refine r_op ?_; refine r_pure hT rfl rfl rfl rfl rfl rfl ?_) | refine gi_plain ?_ | refine gi_skip ?_ | refine gi_inBlock ?_ | (refine gi_cnd ?_; first | refine gi_true rfl ?_ | refine gi_false rfl ?_)))
    refine next (i + 1) _ _ _ (by omega) (by omega) ⟨?_, rfl, rfl, trivial⟩ ⟨rfl, trivial⟩ trivial
    show some (I (wr .i64 ((i : Int) + 1))) = _
    rw [wadd1 (by omega)]
  · clear next
    (repeat (first | refine gi_seq ?_ | refine gi_plain ?_ | refine gi_exit rfl ?_))
    refine r_call (awake19_ok) rfl rfl rfl rfl rfl rfl rfl rfl Try.func32 rfl rfl rfl pB ?_
    rintro r S1 ⟨rfl, rfl⟩
    (repeat (first | refine r_end ?_ | (refine r_op ?_; refine r_pure hT rfl rfl rfl rfl rfl rfl ?_)))
    refine gi_retW hT Try.func5 rfl rfl [] rfl rfl rfl rfl ?_
    exact ⟨rfl, rfl⟩
end Go.Proofs.Ytmocggibcniggaa.Kt
namespace Go.Proofs.Ytmocggibcniggaa.Kt
open Go Kw Go.Proofs
attribute [local irreducible] Kw.GI Kw.GR Kw.FnR Kw.FnX Kw.FnI
set_option maxHeartbeats 16000000
set_option maxRecDepth 100000
theorem prs_at {cs : List Int} (hc : ∀ c ∈ cs, 1 ≤ c ∧ c ≤ 256) : ∀ j, j + 1 < cs.length + 1 → 1 ≤ cs.getD j 0 ∧ cs.getD j 0 ≤ 256 := fun j hj => by
  obtain ⟨c, hx⟩ : ∃ c, cs[j]? = some c := ⟨_, List.getElem?_eq_getElem (by omega)⟩
  rw [List.getD_eq_getElem?_getD, hx]
  exact hc c (List.mem_of_getElem? hx)
theorem RouteRow_ok (ps : List Int) (hps : ∀ p ∈ ps, 0 ≤ p ∧ p ≤ 255) (st : Int) (hst : 0 ≤ st ∧ st ≤ 255) : FnR Try.prog 7 [rs8 ps, u8 st] (RB true) := by
  refine fnR_intro (T := TT) (n := 151) Try.func7 rfl rfl rfl (fun w Z => ?_)
  (repeat (first | refine r_end ?_ | (refine r_op ?_; refine r_pure hT rfl rfl rfl rfl rfl rfl ?_) | refine gi_seq ?_ | refine gi_plain ?_))
  refine r_case (d := 18) rfl (fun c1 => ?_) (fun c1 => ?_)
  · (repeat (first | refine r_end ?_ | (refine r_op ?_; first | refine r_pure hT rfl rfl rfl rfl rfl rfl ?_ | refine r_off rfl rfl rfl rfl rfl ?_) | refine gi_seq ?_ | refine gi_plain ?_ | (refine gi_cnd ?_; first | refine gi_true rfl ?_ | refine gi_false rfl ?_)))
    refine r_call (awake19_ok) rfl rfl rfl rfl rfl rfl rfl rfl Try.func32 rfl rfl rfl pB ?_
    rintro r S1 ⟨rfl, rfl⟩
    (repeat (first | refine r_end ?_ | (refine r_op ?_; refine r_pure hT rfl rfl rfl rfl rfl rfl ?_)))
    refine gi_retW hT Try.func7 rfl rfl [] rfl rfl rfl rfl ?_
    exact ⟨rfl, rfl⟩
  rw [eqB_eq] at c1
  have c1 := ne_of_beq_false c1
  rw [List.length_map] at c1
  (repeat (first | refine r_end ?_ | (refine r_op ?_; refine r_pure hT rfl rfl rfl rfl rfl rfl ?_)))
  refine gi_lt rfl (fun c2 => ?_) (fun c2 => ?_)
  · (repeat (first | refine gi_seq ?_ | refine gi_plain ?_))
    refine r_call (awake19_ok) rfl rfl rfl rfl rfl rfl rfl rfl Try.func32 rfl rfl rfl pB ?_
    rintro r S1 ⟨rfl, rfl⟩
    (repeat (first | refine r_end ?_ | (refine r_op ?_; refine r_pure hT rfl rfl rfl rfl rfl rfl ?_)))
    refine gi_retW hT Try.func7 rfl rfl [] rfl rfl rfl rfl ?_
    exact ⟨rfl, rfl⟩
  rw [List.length_map] at c2
  obtain ⟨cs, hcs⟩ : ∃ cs : List Int, cs = ps.map (fun p => 1 + p) := ⟨_, rfl⟩
  have hm : cs.length = ps.length := by rw [hcs, List.length_map]
  have hce : ∀ (i : Nat) (p : Int), ps[i]? = some p → cs[i]? = some (1 + p) := fun i p hp => by rw [hcs, List.getElem?_map, hp]; rfl
  have hcr : ∀ c ∈ cs, 1 ≤ c ∧ c ≤ 256 := fun c hc => by
    rw [hcs] at hc
    obtain ⟨p, hp, rfl⟩ := List.mem_map.1 hc
    have := hps p hp; omega
  have hm1 : 1 ≤ cs.length ∧ cs.length ≤ 10 := by omega
  (repeat (first | refine r_end ?_ | (refine r_op ?_; refine r_pure hT rfl rfl rfl rfl rfl rfl ?_) | refine gi_seq ?_ | refine gi_plain_ne 4 rfl ?_ | refine gi_skip ?_))
  refine gi_turn (d := 5) (y := I ((cs.length : Int) + 1)) rfl (by rw [List.length_map, ← hm, wr_i64 (by omega) (by omega)]) ?_
  (repeat (first | refine r_end ?_ | (refine r_op ?_; refine r_pure hT rfl rfl rfl rfl rfl rfl ?_) | refine gi_seq ?_ | refine gi_plain ?_ | refine gi_block ?_))
  refine gi_adopt (e := 51) (sz := 12) 6 rfl ?_
  refine gi_rows 0 (se' := seO []) rfl ⟨rfl, rfl, rfl⟩ rows_nest ?_
  refine gi_loop (σ := Nat × List Ls) (fun s => [(7, I ((s.1 : Int) + 1)), (5, I ((cs.length : Int) + 1)), (6, .sl 0), (0, rs8 ps), (1, u8 st)]) (fun _ => []) (fun s => [eO s.2]) (fun s => s.1 ≤ cs.length + 1 ∧ Gs s.1 0 s.2) (fun s => cs.length + 1 - s.1) (0, []) ⟨Nat.zero_le _, Gs.nil⟩ ⟨rfl, rfl, rfl, rfl, rfl, trivial⟩ trivial ⟨rfl, trivial⟩ (fun _ => rfl) (fun s hs next => ?_)
  obtain ⟨j, gs⟩ := s
  obtain ⟨hj, hG⟩ := hs
  simp only at hj hG
  have hgl := hG.len
  (repeat (first | refine r_end ?_ | (refine r_op ?_; refine r_pure hT rfl rfl rfl rfl rfl rfl ?_) | refine gi_seq ?_ | refine gi_plain ?_))
  refine gi_le rfl (fun h3 => ?_) (fun h3 => ?_)
  · (repeat (first | (refine r_op ?_; first | refine r_pure hT rfl rfl rfl rfl rfl rfl ?_ | refine r_lit hT rfl rfl rfl rfl rfl rfl rfl rfl rfl rfl rfl rfl rfl ?_) | refine gi_seq ?_ | refine gi_plain ?_ | refine gi_skip ?_ | refine gi_block ?_))
    refine r_append hT rfl rfl rfl rfl rfl rfl rfl rfl rfl rfl rfl rfl rfl rfl rfl rfl rfl (by simp only [List.length_cons, List.length_nil, List.length_map, maxLen]; exact ⟨by omega, by show _ * 144 ≤ _; omega⟩) ?_
    (repeat (first | refine r_end ?_ | (refine r_op ?_; refine r_pure hT rfl rfl rfl rfl rfl rfl ?_) | refine gi_plain ?_ | refine gi_inBlock ?_))
    refine gi_rows 0 (se' := seO (gs ++ [⟨0, 1, j + 1, j + 1, 0, 0, 0, 0, [], 0, [], []⟩])) rfl ⟨rfl, rfl, by simp⟩ (by rw [eO_snoc gs _ _ rfl]; exact rows_last (raw_le (le_fs 1))) ?_
    refine next (j + 1, gs ++ [⟨0, 1, j + 1, j + 1, 0, 0, 0, 0, [], 0, [], []⟩]) _ _ _ ⟨by simp only at h3 ⊢; omega, hG.snoc⟩ (by simp only at h3 ⊢; omega) ⟨?_, rfl, rfl, rfl, rfl, trivial⟩ trivial ⟨rfl, trivial⟩
    show some (I (wr .i64 ((j : Int) + 1 + 1))) = _
    rw [wr_i64 (by omega) (by omega)]
    simp
  simp only at h3
  have hjn : j = cs.length + 1 := by omega
  subst hjn
  have hR := (RowS.of hG).congr (fun j _ => lkR_zero cs j)
  clear next hG
  (repeat (first | refine r_end ?_ | (refine r_op ?_; refine r_pure hT rfl rfl rfl rfl rfl rfl ?_) | refine gi_seq ?_ | refine gi_plain ?_ | refine gi_block ?_ | refine gi_exit rfl ?_))
  refine gi_loop (σ := Nat × List Ls) (fun s => [(8, I s.1), (5, I ((cs.length : Int) + 1)), (6, .sl 0), (0, rs8 ps), (1, u8 st)]) (fun _ => []) (fun s => [eO s.2]) (fun s => s.1 ≤ cs.length ∧ RowS (lkR cs s.1) (cs.length + 1) s.2) (fun s => cs.length - s.1) (0, gs) ⟨Nat.zero_le _, hR⟩ ⟨rfl, rfl, rfl, rfl, rfl, trivial⟩ trivial ⟨rfl, trivial⟩ (fun _ => rfl) (fun s hs next => ?_)
  clear hR hgl
  obtain ⟨i, gs⟩ := s
  obtain ⟨hi, hG⟩ := hs
  simp only at hi hG
  have hgl := hG.len
  have hlen : ∀ i j, (lkR cs i j).length ≤ 2 := fun i j => by
    unfold lkR
    rw [List.length_append]
    split <;> split <;> simp
  (repeat (first | refine r_end ?_ | (refine r_op ?_; refine r_pure hT rfl rfl rfl rfl rfl rfl ?_) | refine gi_seq ?_ | refine gi_plain ?_))
  refine gi_lt rfl (fun h4 => ?_) (fun h4 => ?_)
  · simp only at h4
    rw [List.length_map] at h4
    have hil : i < ps.length := by omega
    obtain ⟨p, hp⟩ : ∃ p, ps[i]? = some p := ⟨_, List.getElem?_eq_getElem hil⟩
    have hpr := hps p (List.mem_of_getElem? hp)
    obtain ⟨c, hc⟩ : ∃ c : Int, c = 1 + p := ⟨_, rfl⟩
    have hci : cs[i]? = some c := by rw [hc]; exact hce i p hp
    (repeat (first | (refine r_op ?_; refine r_pure hT rfl rfl rfl rfl rfl rfl ?_) | refine gi_seq ?_ | refine gi_plain ?_ | refine gi_skip ?_ | refine gi_block ?_))
    refine r_idx (row := [.v (.int .u8 p)]) hT rfl rfl rfl rfl rfl rfl rfl rfl rfl rfl rfl rfl (by simp only; omega) (by simp [hp]) ?_
    (repeat (first | refine r_end ?_ | (refine r_op ?_; first | refine r_pure hT rfl rfl rfl rfl rfl rfl ?_ | refine r_load hT rfl rfl rfl rfl rfl rfl rfl rfl rfl ?_) | refine gi_seq ?_))
    refine gi_turn (d := 9) (y := I c) rfl (by rw [wr_i64 (n := p) (by omega) (by omega), wr_i64 (by omega) (by omega), hc]) ?_
    obtain ⟨xi, hxi⟩ : ∃ x, gs[i]? = some x := ⟨_, List.getElem?_eq_getElem (by omega)⟩
    have hli : xi.lk.length ≤ 2 := by rw [hG.el i xi hxi]; exact hlen i i
    obtain ⟨b, hb⟩ : ∃ b : Nat, b = i + 1 := ⟨_, rfl⟩
    (repeat (first | (refine r_op ?_; refine r_pure hT rfl rfl rfl rfl rfl rfl ?_) | refine gi_plain ?_))
    refine r_idxS hT rfl rfl rfl rfl rfl rfl rfl rfl rfl rfl rfl rfl rfl (by omega) (by show i < ((gs).map Ls.rowO).length; simp only [List.length_map, List.length_set, List.length_append]; omega) ?_
    (repeat ((refine r_op ?_; refine r_pure hT rfl rfl rfl rfl rfl rfl ?_)))
    refine r_takeS (row := xi.rowO) hT rfl rfl rfl rfl rfl rfl rfl rfl (by show ((gs).map Ls.rowO)[i]? = _; rw [List.getElem?_map, hxi]; rfl) rfl rfl rfl rfl ?_
    (repeat ((refine r_op ?_; first | refine r_pure hT rfl rfl rfl rfl rfl rfl ?_ | refine r_lit hT rfl rfl rfl rfl rfl rfl rfl rfl rfl rfl rfl rfl rfl ?_)))
    refine r_append hT rfl rfl rfl rfl rfl rfl rfl rfl rfl rfl rfl rfl rfl rfl rfl rfl rfl (by simp only [List.length_cons, List.length_nil, List.length_map, maxLen]; exact ⟨by omega, by show _ * 32 ≤ _; omega⟩) ?_
    skip
    refine r_idxS hT rfl rfl rfl rfl rfl rfl rfl rfl rfl rfl rfl rfl rfl (by omega) (by show i < (((gs).map Ls.rowO).set i (xi.rowO.set 8 .any)).length; simp only [List.length_map, List.length_set, List.length_append]; omega) ?_
    (repeat ((refine r_op ?_; refine r_pure hT rfl rfl rfl rfl rfl rfl ?_)))
    refine r_giveS (row := xi.rowO.set 8 .any) hT rfl rfl rfl rfl rfl rfl rfl rfl rfl rfl rfl rfl rfl rfl (List.getElem?_set_self (by simp only [List.length_map, List.length_append]; omega)) rfl ?_
    refine r_eqS _ (eO_link (a := i) xi ⟨_, _, _, _⟩ _) ?_
    have hG2 := hG.add hxi ⟨1, wr .i64 ((i : Int) + 2), wr .i64 (100 + (i : Int)), c⟩
    generalize gs.set i (xi.add _) = g2 at hG2 ⊢
    have hgl2 := hG2.len
    obtain ⟨xb, hxb⟩ : ∃ x, g2[b]? = some x := ⟨_, List.getElem?_eq_getElem (by omega)⟩
    have hlb : xb.lk.length ≤ 2 := by rw [hG2.el b xb hxb, if_neg (by omega)]; exact hlen i b
    (repeat (refine r_end ?_))
    refine gi_weak (F' := [(9, I c), (8, I i), (5, I ((cs.length : Int) + 1)), (6, .sl 0), (0, rs8 ps), (1, u8 st)]) (H' := []) (S' := [eO g2]) ⟨rfl, rfl, rfl, rfl, rfl, rfl, trivial⟩ trivial ⟨rfl, trivial⟩ rfl ?_
    (repeat (first | (refine r_op ?_; refine r_pure hT rfl rfl rfl rfl rfl rfl ?_) | refine gi_plain ?_))
    refine r_turn (d := 73) (y := I (b : Int)) rfl (by rw [wr_i64 (by omega) (by omega), hb]; simp) ?_
    refine r_turn (d := 70) (y := I (b : Int)) rfl (by rw [wr_i64 (by omega) (by omega), hb]; simp) ?_
    refine r_idxS hT rfl rfl rfl rfl rfl rfl rfl rfl rfl rfl rfl rfl rfl (by omega) (by show b < ((g2).map Ls.rowO).length; simp only [List.length_map, List.length_set, List.length_append]; omega) ?_
    (repeat ((refine r_op ?_; refine r_pure hT rfl rfl rfl rfl rfl rfl ?_)))
    refine r_takeS (row := xb.rowO) hT rfl rfl rfl rfl rfl rfl rfl rfl (by show ((g2).map Ls.rowO)[b]? = _; rw [List.getElem?_map, hxb]; rfl) rfl rfl rfl rfl ?_
    (repeat ((refine r_op ?_; first | refine r_pure hT rfl rfl rfl rfl rfl rfl ?_ | refine r_lit hT rfl rfl rfl rfl rfl rfl rfl rfl rfl rfl rfl rfl rfl ?_)))
    refine r_append hT rfl rfl rfl rfl rfl rfl rfl rfl rfl rfl rfl rfl rfl rfl rfl rfl rfl (by simp only [List.length_cons, List.length_nil, List.length_map, maxLen]; exact ⟨by omega, by show _ * 32 ≤ _; omega⟩) ?_
    skip
    refine r_idxS hT rfl rfl rfl rfl rfl rfl rfl rfl rfl rfl rfl rfl rfl (by omega) (by show b < (((g2).map Ls.rowO).set b (xb.rowO.set 8 .any)).length; simp only [List.length_map, List.length_set, List.length_append]; omega) ?_
    (repeat ((refine r_op ?_; refine r_pure hT rfl rfl rfl rfl rfl rfl ?_)))
    refine r_giveS (row := xb.rowO.set 8 .any) hT rfl rfl rfl rfl rfl rfl rfl rfl rfl rfl rfl rfl rfl rfl (List.getElem?_set_self (by simp only [List.length_map, List.length_append]; omega)) rfl ?_
    refine r_eqS _ (eO_link (a := b) xb ⟨_, _, _, _⟩ _) ?_
    have hG3 := hG2.add hxb ⟨1, wr .i64 ((i : Int) + 1), wr .i64 (200 + (i : Int)), c⟩
    generalize g2.set b (xb.add _) = g3 at hG3 ⊢
    have hG4 : RowS (lkR cs (i + 1)) (cs.length + 1) g3 := hG3.congr (fun j _ => by
      rw [wr_i64 (n := (i : Int) + 2) (by omega) (by omega), wr_i64 (n := (i : Int) + 1) (by omega) (by omega), wr_i64 (n := 100 + (i : Int)) (by omega) (by omega), wr_i64 (n := 200 + (i : Int)) (by omega) (by omega), hb]
      exact lkR_step hci j)
    (repeat (first | refine r_end ?_ | (refine r_op ?_; refine r_pure hT rfl rfl rfl rfl rfl rfl ?_) | refine gi_plain ?_ | refine gi_inBlock ?_))
    refine next (i + 1, g3) _ _ _ ⟨by simp only; omega, hG4⟩ (by simp only; omega) ⟨?_, rfl, rfl, rfl, rfl, trivial⟩ trivial ⟨rfl, trivial⟩
    show some (I (wr .i64 ((i : Int) + 1))) = _
    rw [wr_i64 (by omega) (by omega)]
    simp
  simp only at h4
  rw [List.length_map] at h4
  have hie : i = cs.length := by omega
  subst hie
  clear next
  obtain ⟨c0, hc0⟩ : ∃ c0 : Int, c0 = 1 + st := ⟨_, rfl⟩
  obtain ⟨b, hb⟩ : ∃ b : Nat, b = cs.length := ⟨_, rfl⟩
  obtain ⟨xb, hxb⟩ : ∃ x, gs[b]? = some x := ⟨_, List.getElem?_eq_getElem (by omega)⟩
  have hlb : xb.lk.length ≤ 2 := by rw [hG.el b xb hxb]; exact hlen _ b
  (repeat (first | refine gi_seq ?_ | refine gi_exit rfl ?_))
  refine gi_weak (F' := [(5, I ((cs.length : Int) + 1)), (6, .sl 0), (0, rs8 ps), (1, u8 st)]) (H' := []) (S' := [eO gs]) ⟨rfl, rfl, rfl, rfl, trivial⟩ trivial ⟨rfl, trivial⟩ rfl ?_
  (repeat (first | (refine r_op ?_; refine r_pure hT rfl rfl rfl rfl rfl rfl ?_) | refine gi_plain ?_))
  refine r_turn (d := 92) (y := I (b : Int)) rfl (by rw [wr_i64 (by omega) (by omega), hb]; simp) ?_
  refine r_turn (d := 89) (y := I (b : Int)) rfl (by rw [wr_i64 (by omega) (by omega), hb]; simp) ?_
  refine r_idxS hT rfl rfl rfl rfl rfl rfl rfl rfl rfl rfl rfl rfl rfl (by omega) (by show b < ((gs).map Ls.rowO).length; simp only [List.length_map, List.length_set, List.length_append]; omega) ?_
  (repeat ((refine r_op ?_; refine r_pure hT rfl rfl rfl rfl rfl rfl ?_)))
  refine r_takeS (row := xb.rowO) hT rfl rfl rfl rfl rfl rfl rfl rfl (by show ((gs).map Ls.rowO)[b]? = _; rw [List.getElem?_map, hxb]; rfl) rfl rfl rfl rfl ?_
  (repeat ((refine r_op ?_; first | refine r_pure hT rfl rfl rfl rfl rfl rfl ?_ | refine r_lit hT rfl rfl rfl rfl rfl rfl rfl rfl rfl rfl rfl rfl rfl ?_)))
  refine r_append hT rfl rfl rfl rfl rfl rfl rfl rfl rfl rfl rfl rfl rfl rfl rfl rfl rfl (by simp only [List.length_cons, List.length_nil, List.length_map, maxLen]; exact ⟨by omega, by show _ * 32 ≤ _; omega⟩) ?_
  skip
  refine r_idxS hT rfl rfl rfl rfl rfl rfl rfl rfl rfl rfl rfl rfl rfl (by omega) (by show b < (((gs).map Ls.rowO).set b (xb.rowO.set 8 .any)).length; simp only [List.length_map, List.length_set, List.length_append]; omega) ?_
  (repeat ((refine r_op ?_; refine r_pure hT rfl rfl rfl rfl rfl rfl ?_)))
  refine r_giveS (row := xb.rowO.set 8 .any) hT rfl rfl rfl rfl rfl rfl rfl rfl rfl rfl rfl rfl rfl rfl (List.getElem?_set_self (by simp only [List.length_map, List.length_append]; omega)) rfl ?_
  refine r_eqS _ (eO_link (a := b) xb ⟨_, _, _, _⟩ _) ?_
  have hG2 := hG.add hxb ⟨3, 167772160, 4294967040, wr .i64 (1 + wr .i64 st)⟩
  generalize gs.set b (xb.add _) = g2 at hG2 ⊢
  have hst1 : wr .i64 (1 + wr .i64 st) = c0 := by rw [wr_i64 (n := st) (by omega) (by omega), wr_i64 (by omega) (by omega), hc0]
  have hL := lkR_row (cs := cs) (n := cs.length + 1) rfl (c0 := c0) (gs := g2) (hG2.congr (fun j _ => by rw [hst1, hb]; rfl))
  have hc := prs_at hcr
  have hf := hL.few (by omega)
  have hrt := fun r hr => row_routes hL hc (by omega) (by omega) (r := r) hr
  have hp0 := fun i j h1 h2 => prs_mono hc (i := i) (j := j) h1 h2
  clear hG hG2 hL
  (repeat (first | refine r_end ?_ | refine gi_seq ?_))
  refine gi_weak (F' := [(5, I ((cs.length : Int) + 1)), (6, .sl 0), (0, rs8 ps), (1, u8 st)]) (H' := []) (S' := [eO g2]) ⟨rfl, rfl, rfl, rfl, trivial⟩ trivial ⟨rfl, trivial⟩ rfl ?_
  refine gi_freeze 0 rfl (frz_seO g2) ?_
  (repeat (first | (refine r_op ?_; refine r_pure hT rfl rfl rfl rfl rfl rfl ?_) | refine gi_plain ?_))
  refine r_call (MapF g2 hf) rfl rfl rfl rfl rfl rfl rfl rfl Try.func15 rfl rfl rfl pMapP ?_
  rintro r S1 ⟨rfl, rfl⟩
  (repeat (first | refine r_end ?_ | (refine r_op ?_; first | refine r_store hT rfl rfl rfl rfl rfl rfl rfl rfl rfl rfl ?_ | refine r_alloc hT rfl rfl rfl rfl rfl rfl rfl rfl rfl ?_) | refine gi_seq ?_))
  refine gi_freeze 1 (L' := (mapL g2).vs.map Vt.row) rfl rfl ?_
  refine gi_freeze 2 (L' := (mapL g2).es.map Eg.row) rfl rfl ?_
  refine gi_freeze 3 (L' := (mapL g2).sb.map Sb.row) rfl rfl ?_
  refine gi_freeze 4 (L' := (mapL g2).sn.map Sn.row) rfl rfl ?_
  refine gi_freeze 5 (L' := (mapL g2).wl.map nRow) rfl rfl ?_
  refine gi_weak (F' := [(10, .box 0 0), (5, I ((cs.length : Int) + 1)), (0, rs8 ps), (1, u8 st)]) (H' := [hMf (mapL g2)]) (S' := []) ⟨rfl, rfl, rfl, rfl, trivial⟩ ⟨rfl, trivial⟩ trivial rfl ?_
  (repeat (first | refine r_end ?_ | (refine r_op ?_; refine r_pure hT rfl rfl rfl rfl rfl rfl ?_) | refine gi_seq ?_ | refine gi_plain_ne 18 rfl ?_))
  refine gi_turn (d := 11) (y := I c0) rfl (by rw [hst1]) ?_
  (repeat (first | refine r_end ?_ | (refine r_op ?_; refine r_pure hT rfl rfl rfl rfl rfl rfl ?_) | refine gi_plain ?_ | refine gi_block ?_))
  obtain ⟨q, hq⟩ : ∃ q : Nat → Int, q = prs (fun j => cs.getD j 0) := ⟨_, rfl⟩
  rw [← hq] at hp0
  simp only [← hq] at hrt
  have hq0 : q 0 = 0 := by rw [hq]; rfl
  have hqs : ∀ j, q (j + 1) = q j + cs.getD j 0 := fun j => by rw [hq]; rfl
  clear hq
  refine gi_loop (σ := Nat) (fun k => [(12, I (k : Int)), (11, I (c0 + q cs.length - q (k - 1))), (10, .box 0 0), (5, I ((cs.length : Int) + 1)), (0, rs8 ps)]) (fun _ => [hMf (mapL g2)]) (fun _ => []) (fun k => k ≤ cs.length + 1) (fun k => k) (cs.length + 1) (Nat.le_refl _) ⟨rfl, ?_, rfl, rfl, rfl, trivial⟩ ⟨rfl, trivial⟩ trivial (fun _ => rfl) (fun k hk next => ?_)
  · show some (I c0) = some (I (c0 + q cs.length - q (cs.length + 1 - 1)))
    rw [Nat.add_sub_cancel, show c0 + q cs.length - q cs.length = c0 by omega]
  have hk : k ≤ cs.length + 1 := hk
  (repeat (first | refine r_end ?_ | (refine r_op ?_; refine r_pure hT rfl rfl rfl rfl rfl rfl ?_) | refine gi_seq ?_ | refine gi_plain ?_))
  refine gi_le rfl (fun c3 => ?_) (fun c3 => ?_)
  · obtain ⟨r, rfl⟩ : ∃ r, k = r + 1 := ⟨k - 1, by omega⟩
    have hr : r < cs.length + 1 := by omega
    have hRF := RoutesF g2 ((r : Int) + 1) hf
    unfold rtsL at hRF
    rw [hrt r hr] at hRF
    have hpr := hp0 r cs.length (by omega) (by omega)
    obtain ⟨x, hx⟩ : ∃ x : Rt, x = ⟨167772160, 24, q (cs.length + 1 - 1) - q r + c0, if r = cs.length + 1 - 1 then 0 else 100 + (r : Int), if r = cs.length + 1 - 1 then 0 else (r : Int) + 2⟩ := ⟨_, rfl⟩
    rw [← hx] at hRF
    rw [Nat.add_sub_cancel] at hx
    rw [Nat.add_sub_cancel]
    (repeat (first | (refine r_op ?_; first | refine r_pure hT rfl rfl rfl rfl rfl rfl ?_ | refine r_load hT rfl rfl rfl rfl rfl rfl rfl rfl rfl ?_) | refine gi_seq ?_ | refine gi_plain ?_ | refine gi_skip ?_ | refine gi_block ?_))
    refine r_callX [] [] (hRF) rfl rfl rfl rfl rfl rfl Try.func30 rfl rfl rfl rfl rfl rfl rfl pFx ?_
    rintro r1 H1 S1 ⟨rfl, rfl, rfl⟩
    (repeat (first | refine r_end ?_ | (refine r_op ?_; refine r_pure hT rfl rfl rfl rfl rfl rfl ?_) | refine gi_seq ?_))
    refine gi_thaw 13 rfl ?_
    refine gi_weak (F' := [(13, rsRt [x]), (12, I (((r + 1 : Nat) : Int))), (11, I (c0 + q cs.length - q r)), (10, .box 0 0), (5, I ((cs.length : Int) + 1)), (0, rs8 ps)]) (H' := [hMf (mapL g2)]) (S' := []) ⟨rfl, rfl, rfl, rfl, rfl, rfl, trivial⟩ ⟨rfl, trivial⟩ trivial rfl ?_
    apply gi_cut (σ := Unit) (fun _ => [(14, .box 1 0), (13, rsRt [x]), (12, I (((r + 1 : Nat) : Int))), (11, I (c0 + q cs.length - q r)), (10, .box 0 0), (5, I ((cs.length : Int) + 1)), (0, rs8 ps)]) (fun _ => [hMf (mapL g2), hRt x]) (fun _ => []) (fun _ => True) (fun _ => rfl)
    case first =>
      intro fin
      (repeat (first | refine r_end ?_ | (refine r_op ?_; first | refine r_pure hT rfl rfl rfl rfl rfl rfl ?_ | refine r_store hT rfl rfl rfl rfl rfl rfl rfl rfl rfl rfl ?_ | refine r_alloc hT rfl rfl rfl rfl rfl rfl rfl rfl rfl ?_) | refine gi_seq ?_ | refine gi_plain ?_))
      refine gi_lt rfl (fun c4 => ?_) (fun c4 => ?_)
      · rw [if_neg (by omega), if_neg (by omega)] at hx
        (repeat (first | refine r_end ?_ | (refine r_op ?_; first | refine r_pure hT rfl rfl rfl rfl rfl rfl ?_ | refine r_store hT rfl rfl rfl rfl rfl rfl rfl rfl rfl rfl ?_) | refine gi_seq ?_ | refine gi_plain_ne 26 rfl ?_))
        refine fin () _ _ _ trivial ⟨rfl, rfl, rfl, rfl, rfl, rfl, rfl, trivial⟩ ⟨rfl, ?_, trivial⟩ trivial
        have e1 : wr .i64 (wr .i64 (100 + ((r + 1 : Nat) : Int)) - 1) = x.o := by
          rw [hx, wr_i64 (n := 100 + ((r + 1 : Nat) : Int)) (by omega) (by omega), wr_i64 (by omega) (by omega)]
          simp only
          omega
        have e2 : wr .i64 (((r + 1 : Nat) : Int) + 1) = x.n := by
          rw [hx, wr_i64 (by omega) (by omega)]
          simp only
          omega
        have e3 : c0 + q cs.length - q r = x.c := by rw [hx]; simp only; omega
        show hRt x = some (67, [I 167772160, I 24, I (c0 + q cs.length - q r), I (wr .i64 (wr .i64 (100 + ((r + 1 : Nat) : Int)) - 1)), I (wr .i64 (((r + 1 : Nat) : Int) + 1))])
        rw [e1, e2, e3, hx]
      · rw [if_pos (by omega), if_pos (by omega)] at hx
        (repeat (first | refine gi_seq ?_ | refine gi_skip ?_))
        refine fin () _ _ _ trivial ⟨rfl, rfl, rfl, rfl, rfl, rfl, rfl, trivial⟩ ⟨rfl, ?_, trivial⟩ trivial
        have e3 : c0 + q cs.length - q r = x.c := by rw [hx]; simp only; omega
        show hRt x = some (67, [I 167772160, I 24, I (c0 + q cs.length - q r), I 0, I 0])
        rw [e3, hx]
    case after =>
      intro _ _
      skip
      refine gi_drawM [] [(0, .p), (1, .p), (2, .p), (3, .p), (4, .p), (5, .p), (6, .t), (7, .t), (8, .p), (9, .p)] [0, 1, 2, 4, 8, 24, 40, 8, 200, 264] [0, 1, 2, 4, 8, 24, 40, 8, 200, 264] Kt.hm rfl (by kernel_rfl) (fun w1 K => ?_)
      (repeat ((refine r_op ?_; refine r_pure hT rfl rfl rfl rfl rfl rfl ?_)))
      refine r_known (d := 132) (b := false) rfl (by rw [notB_eq, eqB_eq]; rfl) ?_
      (repeat ((refine r_op ?_; refine r_pure hT rfl rfl rfl rfl rfl rfl ?_)))
      refine r_idx (row := x.row) hT rfl rfl rfl rfl rfl rfl rfl rfl rfl rfl rfl rfl (by decide) (by rfl) ?_
      (repeat ((refine r_op ?_; refine r_load hT rfl rfl rfl rfl rfl rfl rfl rfl rfl ?_)))
      refine r_neT _ rfl rfl rfl rfl rfl rfl rfl rfl rfl y_flat_Rt ?_
      (repeat (first | refine r_end ?_ | (refine r_op ?_; refine r_pure hT rfl rfl rfl rfl rfl rfl ?_)))
      refine gi_known (d := 138) (b := false) rfl (rtEq_self x) ?_
      (repeat (first | refine r_end ?_ | (refine r_op ?_; refine r_pure hT rfl rfl rfl rfl rfl rfl ?_) | refine gi_seq ?_ | refine gi_plain ?_ | refine gi_skip ?_ | (refine gi_cnd ?_; first | refine gi_true rfl ?_ | refine gi_false rfl ?_)))
      refine gi_lt rfl (fun c4 => ?_) (fun c4 => ?_)
      · obtain ⟨r', rfl⟩ : ∃ r', r = r' + 1 := ⟨r - 1, by omega⟩
        obtain ⟨p, hp⟩ : ∃ p, ps[r']? = some p := ⟨_, List.getElem?_eq_getElem (by omega)⟩
        have hpr2 := hps p (List.mem_of_getElem? hp)
        have hqr := hqs r'
        have hcg : cs.getD r' 0 = 1 + p := by rw [List.getD_eq_getElem?_getD, hce r' p hp]; rfl
        rw [hcg] at hqr
        have hpr3 := hp0 r' cs.length (by omega) (by omega)
        (repeat (first | (refine r_op ?_; refine r_pure hT rfl rfl rfl rfl rfl rfl ?_) | refine gi_plain ?_))
        refine r_turn (d := 145) (y := I (r' : Int)) rfl (by rw [wr_i64 (by omega) (by omega)]; congr 3; omega) ?_
        refine r_idx (row := [.v (.int .u8 p)]) hT rfl rfl rfl rfl rfl rfl rfl rfl rfl rfl rfl rfl (by omega) (by simp [hp]) ?_
        (repeat (first | refine r_end ?_ | (refine r_op ?_; first | refine r_pure hT rfl rfl rfl rfl rfl rfl ?_ | refine r_load hT rfl rfl rfl rfl rfl rfl rfl rfl rfl ?_) | refine gi_plain ?_ | refine gi_inBlock ?_))
        refine next (r' + 1) _ _ _ (by omega) (by omega) ⟨?_, ?_, rfl, rfl, rfl, trivial⟩ ⟨rfl, trivial⟩ trivial
        · show some (I (wr .i64 (((r' + 1 + 1 : Nat) : Int) - 1))) = _
          rw [wr_i64 (by omega) (by omega), show (((r' + 1 + 1 : Nat) : Int) - 1) = ((r' + 1 : Nat) : Int) by omega]
        · show some (I (wr .i64 (wr .i64 (c0 + q cs.length - q (r' + 1) + 1) + wr .i64 p))) = some (I (c0 + q cs.length - q (r' + 1 - 1)))
          rw [wr_i64 (n := p) (by omega) (by omega), wr_i64 (n := c0 + q cs.length - q (r' + 1) + 1) (by omega) (by omega), wr_i64 (by omega) (by omega), Nat.add_sub_cancel, show c0 + q cs.length - q (r' + 1) + 1 + p = c0 + q cs.length - q r' by omega]
      · have hr0 : r = 0 := by omega
        subst hr0
        (repeat (first | refine r_end ?_ | (refine r_op ?_; refine r_pure hT rfl rfl rfl rfl rfl rfl ?_) | refine gi_plain ?_ | refine gi_skip ?_ | refine gi_inBlock ?_))
        refine next 0 _ _ _ (by omega) (by omega) ⟨?_, rfl, rfl, rfl, rfl, trivial⟩ ⟨rfl, trivial⟩ trivial
        show some (I (wr .i64 (((0 + 1 : Nat) : Int) - 1))) = _
        rw [wr_i64 (by omega) (by omega)]
        rfl
  · clear next
    (repeat (first | refine gi_seq ?_ | refine gi_plain ?_ | refine gi_exit rfl ?_))
    refine r_call (awake19_ok) rfl rfl rfl rfl rfl rfl rfl rfl Try.func32 rfl rfl rfl pB ?_
    rintro r S1 ⟨rfl, rfl⟩
    (repeat (first | refine r_end ?_ | (refine r_op ?_; refine r_pure hT rfl rfl rfl rfl rfl rfl ?_)))
    refine gi_retW hT Try.func7 rfl rfl [] rfl rfl rfl rfl ?_
    exact ⟨rfl, rfl⟩
end Go.Proofs.Ytmocggibcniggaa.Kt
