/- Part of the proofs of this seat's statements: what the functions compute. No condition. -/
import Derived.Test.YtlldjlhjbhkngaaC23Q
import Derived.Test.YtlldjlhjbhkngaaC23K
set_option linter.unusedSimpArgs false
set_option linter.unusedVariables false
namespace Go.Proofs.Ytlldjlhjbhkngaa.Kt
open Go Kw Go.Proofs
attribute [local irreducible] Kw.GI Kw.GR Kw.FnR Kw.FnX
set_option maxHeartbeats 16000000
set_option maxRecDepth 100000
theorem pRchQ {t : List Nd} {m : Mp} {ms : List Vt} : ∀ r H1 S1, RReach t m ms r H1 S1 → plQ r = true ∧ (∀ e ∈ H1, ∀ t cs, e = some (t, cs) → plQL cs = true) ∧ PlainS S1 := by
  rintro r H S ⟨rfl, rfl, o, rfl, _⟩
  refine ⟨rfl, (fun e he => nomatch he), fun e he s hs => ?_⟩
  rw [List.mem_singleton] at he
  subst he
  cases hs
  exact ⟨rfl, pl_rows (fun x c hc => by simp only [List.mem_cons, List.not_mem_nil, or_false] at hc; rcases hc with rfl; exact ⟨_, rfl⟩) o⟩
theorem pNdQ {t : List Nd} : ∀ r H1 S1, RV1 (eNd t) r H1 S1 → plQ r = true ∧ (∀ e ∈ H1, ∀ t cs, e = some (t, cs) → plQL cs = true) ∧ PlainS S1 := by
  rintro r H S ⟨rfl, rfl, rfl⟩
  refine ⟨rfl, (fun e he => nomatch he), fun e he s hs => ?_⟩
  rw [List.mem_singleton] at he
  subst he
  cases hs
  exact ⟨rfl, pl_Nd t⟩
theorem in_ok {a p b : Int} (h : inP a p b = true) : okA p = true := by
  unfold inP at h
  rw [Bool.and_eq_true, Bool.and_eq_true] at h
  exact h.2.1
theorem CastGraphs_ok (n : Int) (hn : 0 ≤ n ∧ n ≤ 255) (ps qs : List Int) (hps : ∀ p ∈ ps, 0 ≤ p ∧ p ≤ 255) (hqs : ∀ p ∈ qs, 0 ≤ p ∧ p ≤ 255) (one : List Bool) (ms : List Vt) : FnR Try.prog 12 [u8 n, rs8 ps, rs8 qs, rsB one, rsV ms] (RB true) := by
  refine fnR_intro (T := TT) (n := 86) Try.func12 rfl rfl rfl (fun w Z => ?_)
  (repeat (first | refine r_end ?_ | (refine r_op ?_; refine r_pure hT rfl rfl rfl rfl rfl rfl ?_) | refine gi_seq ?_ | refine gi_plain ?_))
  refine gi_lt (q := ((ms.map Vt.row).length : Int)) rfl (fun h2 => ?_) (fun h2 => ?_)
  · (repeat (first | refine gi_seq ?_ | refine gi_plain ?_))
    refine r_call (awake23_ok) rfl rfl rfl rfl rfl rfl rfl rfl Try.func16 rfl rfl rfl pB ?_
    rintro r S1 ⟨rfl, rfl⟩
    (repeat (first | refine r_end ?_ | (refine r_op ?_; refine r_pure hT rfl rfl rfl rfl rfl rfl ?_)))
    refine gi_retW hT Try.func12 rfl rfl [] rfl rfl rfl rfl ?_
    exact ⟨rfl, rfl⟩
  rw [List.length_map] at h2
  (repeat (first | (refine r_op ?_; refine r_pure hT rfl rfl rfl rfl rfl rfl ?_) | refine gi_seq ?_ | refine gi_plain ?_ | refine gi_skip ?_))
  refine r_callX [] [] (Graph_ok n hn ps qs hps hqs one) rfl rfl rfl rfl rfl rfl Try.func15 rfl rfl rfl rfl rfl rfl rfl pG ?_
  rintro r H1 S1 ⟨l, hl, rfl, rfl, rfl⟩
  have hf := hl.few
  have hvl : (vertsL l).length ≤ 2000 := map_vs hf
  have hsn : (mapL l).sn.length ≤ 2000 := by
    have := flat_len (snF_len l) (vertsL l)
    show ((vertsL l).flatMap (snF l)).length ≤ _
    omega
  have hsb : (mapL l).sb.length ≤ 2000000 := by
    have := flat_len (fun v => sbF_len hf v) (vertsL l)
    show ((vertsL l).flatMap (sbF l)).length ≤ _
    omega
  have hwl := wl_nil hl.fl
  refine r_freeze 0 rfl (frz_seO l) ?_
  skip
  refine r_call (MapF l hf) rfl rfl rfl rfl rfl rfl rfl rfl Try.func14 rfl rfl rfl pMapP ?_
  rintro r S1 ⟨rfl, rfl⟩
  (repeat (first | refine r_end ?_ | (refine r_op ?_; first | refine r_store hT rfl rfl rfl rfl rfl rfl rfl rfl rfl rfl ?_ | refine r_alloc hT rfl rfl rfl rfl rfl rfl rfl rfl rfl ?_) | refine gi_seq ?_))
  refine gi_freeze 1 (L' := (mapL l).vs.map Vt.row) rfl rfl ?_
  refine gi_freeze 2 (L' := (mapL l).es.map Eg.row) rfl rfl ?_
  refine gi_freeze 3 (L' := (mapL l).sb.map Sb.row) rfl rfl ?_
  refine gi_freeze 4 (L' := (mapL l).sn.map Sn.row) rfl rfl ?_
  refine gi_freeze 5 (L' := (mapL l).wl.map nRow) rfl rfl ?_
  refine gi_weak (F' := [(11, .box 0 0), (4, rsV ms)]) (H' := [hMf (mapL l)]) (S' := []) ⟨rfl, rfl, trivial⟩ ⟨rfl, trivial⟩ trivial rfl ?_
  (repeat (first | refine r_end ?_ | (refine r_op ?_; refine r_pure hT rfl rfl rfl rfl rfl rfl ?_) | refine gi_plain ?_ | refine gi_block ?_))
  refine gi_loop (σ := Nat) (fun i => [(12, I i), (11, .box 0 0), (4, rsV ms)]) (fun _ => [hMf (mapL l)]) (fun _ => []) (fun i => i ≤ (mapL l).sn.length + (mapL l).sb.length) (fun i => (mapL l).sn.length + (mapL l).sb.length - i) 0 (Nat.zero_le _) ⟨rfl, rfl, rfl, trivial⟩ ⟨rfl, trivial⟩ trivial (fun _ => rfl) (fun i hi next => ?_)
  have hi : i ≤ (mapL l).sn.length + (mapL l).sb.length := hi
  have hq : wr .i64 ((((mapL l).sn.map Sn.row).length : Int) + (((mapL l).sb.map Sb.row).length : Int)) = ((mapL l).sn.length : Int) + ((mapL l).sb.length : Int) := by
    rw [List.length_map, List.length_map, wr_i64 (by omega) (by omega)]
  (repeat (first | refine r_end ?_ | (refine r_op ?_; first | refine r_pure hT rfl rfl rfl rfl rfl rfl ?_ | refine r_load hT rfl rfl rfl rfl rfl rfl rfl rfl rfl ?_) | refine gi_seq ?_ | refine gi_plain ?_))
  refine gi_lt (p := (i : Int)) (q := wr .i64 ((((mapL l).sn.map Sn.row).length : Int) + (((mapL l).sb.map Sb.row).length : Int))) rfl (fun h3 => ?_) (fun h3 => ?_)
  · rw [hq] at h3
    have on : ∀ F1 H1 S1, SubF [(12, I (wr .i64 ((i : Int) + 1))), (11, .box 0 0), (4, rsV ms)] F1 → SubH [hMf (mapL l)] H1 → SubS [] S1 → GI _ _ F1 H1 S1 := fun F1 H1 S1 hF hH hS => by
      refine next (i + 1) F1 H1 S1 (by omega) (by omega) ?_ hH hS
      rw [wr_i64 (by omega) (by omega)] at hF
      simpa using hF
    clear next
    (repeat (first | refine gi_seq ?_ | refine gi_skip ?_ | refine gi_block ?_))
    apply gi_cut (σ := Int) (fun a => [(13, I a), (12, I (i : Int)), (11, .box 0 0), (4, rsV ms)]) (fun _ => [hMf (mapL l)]) (fun _ => []) (fun a => (∃ x ∈ (mapL l).sn, a = x.p + 9) ∨ ∃ x ∈ (mapL l).sb, a = x.p + 9) (fun _ => rfl)
    case first =>
      intro fin
      (repeat (first | refine r_end ?_ | (refine r_op ?_; first | refine r_pure hT rfl rfl rfl rfl rfl rfl ?_ | refine r_load hT rfl rfl rfl rfl rfl rfl rfl rfl rfl ?_) | refine gi_seq ?_ | refine gi_plain ?_))
      refine gi_lt (p := (i : Int)) (q := (((mapL l).sn.map Sn.row).length : Int)) rfl (fun h4 => ?_) (fun h4 => ?_)
      · rw [List.length_map] at h4
        obtain ⟨x, hx⟩ : ∃ x, (mapL l).sn[i]? = some x := ⟨_, List.getElem?_eq_getElem (by omega)⟩
        have hxm := List.mem_of_getElem? hx
        have hxb := okA_b (in_ok (hl.sn x hxm).1)
        (repeat (first | (refine r_op ?_; first | refine r_pure hT rfl rfl rfl rfl rfl rfl ?_ | refine r_load hT rfl rfl rfl rfl rfl rfl rfl rfl rfl ?_) | refine gi_plain ?_))
        refine r_thaw 42 rfl ?_
        refine r_idx (row := x.row) hT rfl rfl rfl rfl rfl rfl rfl rfl rfl rfl rfl rfl (by show (0 : Int) ≤ (i : Int); omega) (by simp [hx]) ?_
        (repeat (first | refine r_end ?_ | (refine r_op ?_; first | refine r_pure hT rfl rfl rfl rfl rfl rfl ?_ | refine r_load hT rfl rfl rfl rfl rfl rfl rfl rfl rfl ?_) | refine gi_seq ?_))
        exact fin (x.p + 9) _ _ _ (.inl ⟨x, hxm, rfl⟩) ⟨by show some (I (wr .i64 (x.p + 9))) = _; rw [wr_i64 (by omega) (by omega)], rfl, rfl, rfl, trivial⟩ ⟨rfl, trivial⟩ trivial
      · rw [List.length_map] at h4
        obtain ⟨j, hj⟩ : ∃ j, i = (mapL l).sn.length + j := ⟨i - (mapL l).sn.length, by omega⟩
        obtain ⟨x, hx⟩ : ∃ x, (mapL l).sb[j]? = some x := ⟨_, List.getElem?_eq_getElem (by omega)⟩
        have hxm := List.mem_of_getElem? hx
        have hxb := okA_b (in_ok (hl.sb x hxm).1)
        (repeat (first | (refine r_op ?_; first | refine r_pure hT rfl rfl rfl rfl rfl rfl ?_ | refine r_load hT rfl rfl rfl rfl rfl rfl rfl rfl rfl ?_) | refine gi_plain ?_))
        refine r_thaw 49 rfl ?_
        refine r_turn (d := 54) (y := I (j : Int)) rfl (by rw [List.length_map, wr_i64 (by omega) (by omega), show (i : Int) - ((mapL l).sn.length : Int) = j by omega]) ?_
        refine r_idx (row := x.row) hT rfl rfl rfl rfl rfl rfl rfl rfl rfl rfl rfl rfl (by show (0 : Int) ≤ (j : Int); omega) (by simp [hx]) ?_
        (repeat (first | refine r_end ?_ | (refine r_op ?_; first | refine r_pure hT rfl rfl rfl rfl rfl rfl ?_ | refine r_load hT rfl rfl rfl rfl rfl rfl rfl rfl rfl ?_) | refine gi_seq ?_))
        exact fin (x.p + 9) _ _ _ (.inr ⟨x, hxm, rfl⟩) ⟨by show some (I (wr .i64 (x.p + 9))) = _; rw [wr_i64 (by omega) (by omega)], rfl, rfl, rfl, trivial⟩ ⟨rfl, trivial⟩ trivial
    case after =>
    intro a ha
    obtain ⟨v, hv, hcast⟩ := hl.cast ha
    have hT0 := tr_of hf hv
    have hlt := tree_lt hf v
    have hkd : ∀ m ∈ refTree (mapL l) v, m.v.k = 1 ∨ m.v.k = 2 := fun m hm => verts_kind (hT0.vs m hm)
    (repeat (first | (refine r_op ?_; first | refine r_pure hT rfl rfl rfl rfl rfl rfl ?_ | refine r_load hT rfl rfl rfl rfl rfl rfl rfl rfl rfl ?_) | refine gi_plain ?_))
    refine r_callX [] [] (rCast_ok l hf a (by omega) (by omega)) rfl rfl rfl rfl rfl rfl Try.func30 rfl rfl rfl rfl rfl rfl rfl pNd ?_
    rintro r H1 S1 ⟨rfl, rfl, rfl⟩
    have hTC := pTreeC_ok l hf a (by omega) (by omega)
    rw [hcast] at hTC
    rw [src_same, hcast]
    generalize refTree (mapL l) v = t at hT0 hlt hkd hTC ⊢
    have hpos := hT0.pos
    (repeat (first | refine r_end ?_ | (refine r_op ?_; refine r_pure hT rfl rfl rfl rfl rfl rfl ?_) | refine gi_seq ?_))
    refine gi_freeze 0 (L' := t.map Nd.row) rfl rfl ?_
    refine gi_weak (F' := [(14, fsNd t), (13, I a), (12, I (i : Int)), (11, .box 0 0), (4, rsV ms)]) (H' := [hMf (mapL l)]) (S' := []) ⟨rfl, rfl, rfl, rfl, rfl, trivial⟩ ⟨rfl, trivial⟩ trivial rfl ?_
    refine gi_drawM [] [(0, .p), (1, .p), (2, .p), (3, .p), (5, .p), (7, .p), (4, .t), (6, .o), (8, .o), (9, .p), (10, .p), (11, .p), (12, .p), (14, .p), (16, .p), (18, .p), (13, .t), (17, .t), (15, .o), (19, .o), (20, .o), (21, .p), (22, .p)] [0, 1, 2, 4, 8, 8, 56, 8, 200, 264, 520, 1280, 2048, 2048, 2048, 30720, 2048, 2048, 2048, 493568, 559104, 1050624, 2099200] [0, 1, 2, 4, 8, 8, 56, 8, 200, 264, 520, 1024, 2048, 2048, 2048, 30720, 2048, 2048, 2048, 460800, 559104, 1050624, 2099200] hm rfl (by kernel_rfl) (fun w1 K => ?_)
    (repeat ((refine r_op ?_; refine r_pure hT rfl rfl rfl rfl rfl rfl ?_)))
    refine r_known (d := 65) (b := false) rfl (by rw [eqB_eq, List.length_map]; exact decide_eq_false (by omega)) ?_
    (repeat ((refine r_op ?_; first | refine r_pure hT rfl rfl rfl rfl rfl rfl ?_ | refine r_load hT rfl rfl rfl rfl rfl rfl rfl rfl rfl ?_)))
    refine r_callXo [] [] (hTC) rfl rfl rfl rfl rfl rfl Try.func29 rfl rfl rfl rfl rfl rfl rfl rfl rfl rfl pNdQ ?_
    rintro r H1 S1 ⟨rfl, rfl, rfl⟩
    skip
    refine r_thaw 69 rfl ?_
    refine r_call (Nodes_okC t hlt) rfl rfl rfl rfl rfl rfl rfl rfl Try.func21 rfl rfl rfl pB ?_
    rintro r S1 ⟨rfl, rfl⟩
    (repeat ((refine r_op ?_; refine r_pure hT rfl rfl rfl rfl rfl rfl ?_)))
    refine r_known (d := 73) (b := false) rfl (by rw [notB_eq]; rfl) ?_
    (repeat ((refine r_op ?_; first | refine r_pure hT rfl rfl rfl rfl rfl rfl ?_ | refine r_load hT rfl rfl rfl rfl rfl rfl rfl rfl rfl ?_)))
    refine r_callXo [] [] (pReach_ok t (mapL l) ms hlt (by rw [hwl]; decide) (by omega)) rfl rfl rfl rfl rfl rfl Try.func18 rfl rfl rfl rfl rfl rfl rfl rfl rfl rfl pRchQ ?_
    rintro r H1 S1 ⟨rfl, rfl, oa, rfl, hA⟩
    skip
    refine r_thaw 78 rfl ?_
    refine r_callXo [] [] (rReach_ok t (mapL l) ms hlt (by rw [hwl]; decide) (by omega) hkd) rfl rfl rfl rfl rfl rfl Try.func32 rfl rfl rfl rfl rfl rfl rfl rfl rfl rfl pRchQ ?_
    rintro r H1 S1 ⟨rfl, rfl, ob, rfl, hB⟩
    have hab := hA.uniq hB
    subst hab
    skip
    refine r_call (Ints_ok oa (by rw [hA.lo]; exact hlt)) rfl rfl rfl rfl rfl rfl rfl rfl Try.func19 rfl rfl rfl pB ?_
    rintro r S1 ⟨rfl, rfl⟩
    (repeat (first | refine r_end ?_ | (refine r_op ?_; refine r_pure hT rfl rfl rfl rfl rfl rfl ?_)))
    refine gi_known (d := 84) (b := false) rfl (by rw [notB_eq]; rfl) ?_
    (repeat (first | refine r_end ?_ | (refine r_op ?_; refine r_pure hT rfl rfl rfl rfl rfl rfl ?_) | refine gi_plain ?_ | refine gi_skip ?_ | refine gi_inBlock ?_ | (refine gi_cnd ?_; first | refine gi_true rfl ?_ | refine gi_false rfl ?_)))
    exact on _ _ _ ⟨rfl, rfl, rfl, trivial⟩ ⟨rfl, trivial⟩ trivial
  · clear next
    (repeat (first | refine gi_seq ?_ | refine gi_plain ?_ | refine gi_exit rfl ?_))
    refine r_call (awake23_ok) rfl rfl rfl rfl rfl rfl rfl rfl Try.func16 rfl rfl rfl pB ?_
    rintro r S1 ⟨rfl, rfl⟩
    (repeat (first | refine r_end ?_ | (refine r_op ?_; refine r_pure hT rfl rfl rfl rfl rfl rfl ?_)))
    refine gi_retW hT Try.func12 rfl rfl [] rfl rfl rfl rfl ?_
    exact ⟨rfl, rfl⟩
end Go.Proofs.Ytlldjlhjbhkngaa.Kt
