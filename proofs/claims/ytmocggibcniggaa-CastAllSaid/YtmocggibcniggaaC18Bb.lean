/- Part of the proofs of this seat's statements: what the functions compute. No condition. -/
import Derived.Test.YtmocggibcniggaaC18Ba
set_option linter.unusedSimpArgs false
set_option linter.unusedVariables false
namespace Go.Proofs.Ytmocggibcniggaa.Kt
open Go Kw Go.Proofs
attribute [local irreducible] Kw.GI Kw.GR Kw.FnR Kw.FnX
set_option maxHeartbeats 16000000
set_option maxRecDepth 100000
theorem eO_link2 {gs ns : List Ls} {a : Nat} (ha : a < gs.length) (x : Ls) (q : Lk) (T : Sp) : (some (⟨51, 12, (((gs ++ ns).map Ls.rowO).set a (x.rowO.set 8 .any)).set a ((x.rowO.set 8 .any).set 8 (.os 54 4 (x.lk.map Lk.row ++ [q.row]))), true⟩ : SE) :: T : Sp) = eO (gs.set a (x.add q) ++ ns) :: T := by
  rw [eO_link x q T, set_app_left ha]
theorem lk1 {i d c : Int} (h : 0 ≤ c ∧ c ≤ 10) : LkOk ⟨1, i, d, c⟩ := ⟨h.1, h.2, fun e => by cases e⟩
theorem lk2 {i d c : Int} (h : 0 ≤ c ∧ c ≤ 10) : LkOk ⟨2, i, d, c⟩ := ⟨h.1, h.2, fun e => by cases e⟩
theorem idx_nat {k : Nat} {v : Int} (hk : 0 < k) (hv : 0 ≤ v) : ∃ a : Nat, rm v k = a ∧ a < k := by
  rw [rm_pos hv]
  have h1 := Int.emod_nonneg v (show (k : Int) ≠ 0 by omega)
  have h2 := Int.emod_lt_of_pos v (show (0 : Int) < k by omega)
  exact ⟨(v % k).toNat, by omega, by omega⟩
theorem Graph_ok (n : Int) (hn : 0 ≤ n ∧ n ≤ 255) (ps qs : List Int) (hps : ∀ p ∈ ps, 0 ≤ p ∧ p ≤ 255) (hqs : ∀ p ∈ qs, 0 ≤ p ∧ p ≤ 255) (one : List Bool) : FnX Try.prog 28 [u8 n, rs8 ps, rs8 qs, rsB one] [] [] (RG n) := by
  refine fnX_intro (T := TT) (n := 235) Try.func28 rfl rfl rfl (fun w X Z Y B => ?_)
  obtain ⟨k, hk⟩ : ∃ k : Nat, (k : Int) = 1 + n % 6 := ⟨(1 + n % 6).toNat, by omega⟩
  have hk1 : 1 ≤ k ∧ k ≤ 6 := by omega
  (repeat (first | refine r_end ?_ | (refine r_op ?_; refine r_pure hT rfl rfl rfl rfl rfl rfl ?_) | refine gi_seq ?_ | refine gi_plain_ne 2 rfl ?_))
  refine gi_turn (d := 9) (y := I (k : Int)) rfl (by rw [wr_i64 (n := n) (by omega) (by omega), rm_pos hn.1, wr_i64 (by omega) (by omega), hk]) ?_
  (repeat (first | refine r_end ?_ | (refine r_op ?_; refine r_pure hT rfl rfl rfl rfl rfl rfl ?_) | refine gi_seq ?_ | refine gi_plain ?_ | refine gi_block ?_))
  refine gi_adopt (e := 51) (sz := 12) 10 rfl ?_
  refine gi_rows 0 (se' := seO []) rfl ⟨rfl, rfl, rfl⟩ rows_nest ?_
  refine gi_loop (σ := Nat × List Ls) (fun s => [(11, I ((s.1 : Int) + 1)), (9, I k), (10, .sl 0), (1, rs8 ps), (2, rs8 qs), (3, rsB one)]) (fun _ => []) (fun s => [eO s.2]) (fun s => s.1 ≤ k ∧ Gs s.1 0 s.2) (fun s => k - s.1) (0, []) ⟨Nat.zero_le _, Gs.nil⟩ ⟨rfl, rfl, rfl, rfl, rfl, rfl, trivial⟩ trivial ⟨rfl, trivial⟩ (fun _ => rfl) (fun s hs next => ?_)
  obtain ⟨j, gs⟩ := s
  obtain ⟨hj, hG⟩ := hs
  simp only at hj hG
  have hgl := hG.len
  (repeat (first | refine r_end ?_ | (refine r_op ?_; refine r_pure hT rfl rfl rfl rfl rfl rfl ?_) | refine gi_seq ?_ | refine gi_plain ?_))
  refine gi_le rfl (fun h3 => ?_) (fun h3 => ?_)
  · (repeat (first | (refine r_op ?_; first | refine r_pure hT rfl rfl rfl rfl rfl rfl ?_ | refine r_lit hT rfl rfl rfl rfl rfl rfl rfl rfl rfl rfl rfl rfl rfl ?_) | refine gi_seq ?_ | refine gi_plain ?_ | refine gi_skip ?_ | refine gi_block ?_))
    refine r_append hT rfl rfl rfl rfl rfl rfl rfl rfl rfl rfl rfl rfl rfl rfl rfl rfl rfl (by simp only [List.length_cons, List.length_nil, List.length_map, maxLen]; exact ⟨by omega, by show _ * 144 ≤ _; omega⟩) ?_
    (repeat (first | refine r_end ?_ | (refine r_op ?_; refine r_pure hT rfl rfl rfl rfl rfl rfl ?_) | refine gi_plain ?_ | refine gi_inBlock ?_))
    refine gi_rows 0 (se' := seO (gs ++ [⟨0, 1, j + 1, j + 1, 0, 0, 0, 0, [], 0, [], []⟩])) rfl ⟨rfl, rfl, by simp⟩ (by rw [eO_snoc gs _ _ rfl]; exact rows_last (raw_le (le_fs 1))) ?_
    refine next (j + 1, gs ++ [⟨0, 1, j + 1, j + 1, 0, 0, 0, 0, [], 0, [], []⟩]) _ _ _ ⟨by simp only; omega, hG.snoc⟩ (by simp only; omega) ⟨?_, rfl, rfl, rfl, rfl, rfl, trivial⟩ trivial ⟨rfl, trivial⟩
    show some (I (wr .i64 ((j : Int) + 1 + 1))) = _
    rw [wr_i64 (by omega) (by omega)]
    simp
  obtain rfl : j = k := by omega
  (repeat (first | refine r_end ?_ | (refine r_op ?_; refine r_pure hT rfl rfl rfl rfl rfl rfl ?_) | refine gi_seq ?_ | refine gi_plain ?_ | refine gi_block ?_ | refine gi_exit rfl ?_))
  refine gi_loop (σ := Nat × Nat × List Ls) (fun s => [(13, I s.1), (12, I s.2.1), (9, I j), (10, .sl 0), (1, rs8 ps), (2, rs8 qs), (3, rsB one)]) (fun _ => []) (fun s => [eO s.2.2]) (fun s => s.1 ≤ 40 ∧ s.2.1 ≤ s.1 ∧ Gs j s.1 s.2.2) (fun s => 50 - s.1) (0, 0, gs) ⟨Nat.zero_le _, Nat.zero_le _, hG⟩ ⟨rfl, rfl, rfl, rfl, rfl, rfl, rfl, trivial⟩ trivial ⟨rfl, trivial⟩ (fun _ => rfl) (fun s hs next => ?_)
  obtain ⟨i, t, gs⟩ := s
  obtain ⟨hi, ht, hG⟩ := hs
  simp only at hi ht hG
  have hgl := hG.len
  (repeat (refine gi_seq ?_))
  apply gi_cut (σ := Unit) (fun _ => [(12, I t), (9, I j), (10, .sl 0), (1, rs8 ps), (2, rs8 qs), (3, rsB one)]) (fun _ => []) (fun _ => [eO gs]) (fun _ => True) (fun _ => rfl)
  case first =>
    intro fin
    (repeat (first | (refine r_op ?_; refine r_pure hT rfl rfl rfl rfl rfl rfl ?_) | refine gi_plain ?_))
    refine r_case (d := 42) rfl (fun c1 => ?_) (fun c1 => ?_)
    · rw [ltB_eq, wr_i64 (by omega) (by omega)] at c1
      have c1 := of_decide_eq_true c1
      rw [List.length_map] at c1
      (repeat (first | refine r_end ?_ | (refine r_op ?_; refine r_pure hT rfl rfl rfl rfl rfl rfl ?_)))
      refine gi_lt rfl (fun h4 => ?_) (fun h4 => ?_)
      · obtain ⟨p0, hp0⟩ : ∃ x, ps[i]? = some x := ⟨_, List.getElem?_eq_getElem (by omega)⟩
        obtain ⟨p1, hp1⟩ : ∃ x, ps[i + 1]? = some x := ⟨_, List.getElem?_eq_getElem (by omega)⟩
        obtain ⟨p2, hp2⟩ : ∃ x, ps[i + 2]? = some x := ⟨_, List.getElem?_eq_getElem (by omega)⟩
        have r0 := hps p0 (List.mem_of_getElem? hp0)
        have r1 := hps p1 (List.mem_of_getElem? hp1)
        have r2 := hps p2 (List.mem_of_getElem? hp2)
        obtain ⟨a, ha, hal⟩ := idx_nat (k := j) (by omega) r0.1
        obtain ⟨b, hb, hbl⟩ := idx_nat (k := j) (by omega) r1.1
        (repeat (first | refine gi_seq ?_ | refine gi_skip ?_ | refine gi_block ?_))
        refine gi_drawM [] [(0, .p), (1, .p), (2, .p), (5, .p), (7, .p), (8, .p), (9, .p), (10, .p), (13, .p), (3, .t), (4, .p), (6, .p), (15, .p), (11, .t), (12, .p), (14, .p), (16, .p)] [0, 0, 3, 4, 8, 0, 48, 0, 0, 256, 640, 1024, 2048, 0, 12288, 127, 65535] [0, 0, 3, 4, 8, 0, 48, 0, 0, 256, 640, 1024, 2048, 0, 12288, 64, 16384] hm rfl (by kernel_rfl) (fun w1 K => ?_)
        (repeat ((refine r_op ?_; refine r_pure hT rfl rfl rfl rfl rfl rfl ?_)))
        refine r_idx (row := [.v (.int .u8 p0)]) hT rfl rfl rfl rfl rfl rfl rfl rfl rfl rfl rfl rfl (by omega) (by simp [hp0]) ?_
        (repeat ((refine r_op ?_; refine r_pure hT rfl rfl rfl rfl rfl rfl ?_)))
        refine r_idx (row := [.v (.int .u8 p1)]) hT rfl rfl rfl rfl rfl rfl rfl rfl rfl rfl rfl rfl (by rw [wr_i64 (by omega) (by omega)]; omega) (by rw [wr_i64 (by omega) (by omega), show ((i : Int) + 1).toNat = i + 1 by omega]; simp [hp1]) ?_
        (repeat ((refine r_op ?_; first | refine r_pure hT rfl rfl rfl rfl rfl rfl ?_ | refine r_load hT rfl rfl rfl rfl rfl rfl rfl rfl rfl ?_)))
        refine r_rem (n := a) (p' := (j : Int)) rfl rfl rfl rfl rfl rfl rfl rfl (by omega) (by rw [wr_i64 (n := p0) (by omega) (by omega), ha]) ?_
        (repeat ((refine r_op ?_; first | refine r_pure hT rfl rfl rfl rfl rfl rfl ?_ | refine r_load hT rfl rfl rfl rfl rfl rfl rfl rfl rfl ?_)))
        refine r_rem (n := b) (p' := (j : Int)) rfl rfl rfl rfl rfl rfl rfl rfl (by omega) (by rw [wr_i64 (n := p1) (by omega) (by omega), hb]) ?_
        (repeat (first | refine r_end ?_ | (refine r_op ?_; refine r_pure hT rfl rfl rfl rfl rfl rfl ?_) | refine gi_seq ?_ | refine gi_plain ?_))
        refine gi_eq rfl (fun h5 => ?_) (fun h5 => ?_)
        · (repeat (first | refine r_end ?_ | (refine r_op ?_; refine r_pure hT rfl rfl rfl rfl rfl rfl ?_) | refine gi_plain ?_ | refine gi_exit rfl ?_))
          refine next (i + 3, t, gs) _ _ _ ⟨by simp only; omega, by simp only; omega, hG.mono (by simp only; omega)⟩ (by simp only; omega) ⟨?_, rfl, rfl, rfl, rfl, rfl, rfl, trivial⟩ trivial ⟨rfl, trivial⟩
          show some (I (wr .i64 ((i : Int) + 3))) = _
          rw [wr_i64 (by omega) (by omega)]
          simp
        (repeat (first | (refine r_op ?_; refine r_pure hT rfl rfl rfl rfl rfl rfl ?_) | refine gi_seq ?_ | refine gi_plain ?_ | refine gi_skip ?_))
        refine r_idx (row := [.v (.int .u8 p2)]) hT rfl rfl rfl rfl rfl rfl rfl rfl rfl rfl rfl rfl (by rw [wr_i64 (by omega) (by omega)]; omega) (by rw [wr_i64 (by omega) (by omega), show ((i : Int) + 2).toNat = i + 2 by omega]; simp [hp2]) ?_
        (repeat (first | refine r_end ?_ | (refine r_op ?_; first | refine r_pure hT rfl rfl rfl rfl rfl rfl ?_ | refine r_load hT rfl rfl rfl rfl rfl rfl rfl rfl rfl ?_) | refine gi_seq ?_))
        obtain ⟨c, hc⟩ : ∃ c : Int, c = wr .i64 (1 + rm (wr .i64 p2) 5) := ⟨_, rfl⟩
        have hcr : 0 ≤ c ∧ c ≤ 6 := by rw [hc, wr_i64 (n := p2) (by omega) (by omega)]; exact cost_rm 5 r2.1 (by omega) (by omega)
        refine gi_turn (d := 16) (y := I c) rfl (by rw [hc]) ?_
        obtain ⟨xa, hxa⟩ : ∃ x, gs[a]? = some x := ⟨_, List.getElem?_eq_getElem (by omega)⟩
        have hla := (hG.el a xa hxa).2.2
        (repeat (first | (refine r_op ?_; refine r_pure hT rfl rfl rfl rfl rfl rfl ?_) | refine gi_plain ?_))
        refine r_idxS hT rfl rfl rfl rfl rfl rfl rfl rfl rfl rfl rfl rfl rfl (by omega) (by show a < ((gs).map Ls.rowO).length; simp only [List.length_map, List.length_set, List.length_append]; omega) ?_
        (repeat ((refine r_op ?_; refine r_pure hT rfl rfl rfl rfl rfl rfl ?_)))
        refine r_takeS (row := xa.rowO) hT rfl rfl rfl rfl rfl rfl rfl rfl (by show ((gs).map Ls.rowO)[a]? = _; rw [List.getElem?_map, hxa]; rfl) rfl rfl rfl rfl ?_
        (repeat ((refine r_op ?_; first | refine r_pure hT rfl rfl rfl rfl rfl rfl ?_ | refine r_lit hT rfl rfl rfl rfl rfl rfl rfl rfl rfl rfl rfl rfl rfl ?_)))
        refine r_append hT rfl rfl rfl rfl rfl rfl rfl rfl rfl rfl rfl rfl rfl rfl rfl rfl rfl (by simp only [List.length_cons, List.length_nil, List.length_map, maxLen]; exact ⟨by omega, by show _ * 32 ≤ _; omega⟩) ?_
        skip
        refine r_idxS hT rfl rfl rfl rfl rfl rfl rfl rfl rfl rfl rfl rfl rfl (by omega) (by show a < (((gs).map Ls.rowO).set a (xa.rowO.set 8 .any)).length; simp only [List.length_map, List.length_set, List.length_append]; omega) ?_
        (repeat ((refine r_op ?_; refine r_pure hT rfl rfl rfl rfl rfl rfl ?_)))
        refine r_giveS (row := xa.rowO.set 8 .any) hT rfl rfl rfl rfl rfl rfl rfl rfl rfl rfl rfl rfl rfl rfl (List.getElem?_set_self (by simp only [List.length_map, List.length_append]; omega)) rfl ?_
        refine r_eqS _ (eO_link (a := a) xa ⟨_, _, _, _⟩ _) ?_
        have hG2 := hG.add hxa (lk1 (i := wr .i64 ((b : Int) + 1)) (d := wr .i64 (1000 + (i : Int))) (c := c) ⟨hcr.1, by omega⟩)
        generalize gs.set a (xa.add _) = g2 at hG2 ⊢
        have hgl2 := hG2.len
        obtain ⟨xb, hxb⟩ : ∃ x, g2[b]? = some x := ⟨_, List.getElem?_eq_getElem (by omega)⟩
        have hlb := (hG2.el b xb hxb).2.2
        have hcr2 : 0 ≤ wr .i64 (c + rm i 3) ∧ wr .i64 (c + rm i 3) ≤ 10 := by
          rw [rm_pos (by omega)]
          have h6 := Int.emod_nonneg (i : Int) (show (3 : Int) ≠ 0 by omega)
          have h7 := Int.emod_lt_of_pos (i : Int) (show (0 : Int) < 3 by omega)
          rw [wr_i64 (by omega) (by omega)]; omega
        (repeat (first | refine r_end ?_ | (refine r_op ?_; refine r_pure hT rfl rfl rfl rfl rfl rfl ?_) | refine gi_seq ?_ | refine gi_plain ?_))
        refine r_case (d := 95) rfl (fun c2 => ?_) (fun c2 => ?_)
        · (repeat (first | refine r_end ?_ | (refine r_op ?_; first | refine r_pure hT rfl rfl rfl rfl rfl rfl ?_ | refine r_off rfl rfl rfl rfl rfl ?_) | refine gi_plain ?_ | (refine gi_cnd ?_; first | refine gi_true rfl ?_ | refine gi_false rfl ?_)))
          refine r_idxS hT rfl rfl rfl rfl rfl rfl rfl rfl rfl rfl rfl rfl rfl (by omega) (by show b < ((g2).map Ls.rowO).length; simp only [List.length_map, List.length_set, List.length_append]; omega) ?_
          (repeat ((refine r_op ?_; refine r_pure hT rfl rfl rfl rfl rfl rfl ?_)))
          refine r_takeS (row := xb.rowO) hT rfl rfl rfl rfl rfl rfl rfl rfl (by show ((g2).map Ls.rowO)[b]? = _; rw [List.getElem?_map, hxb]; rfl) rfl rfl rfl rfl ?_
          (repeat ((refine r_op ?_; first | refine r_pure hT rfl rfl rfl rfl rfl rfl ?_ | refine r_lit hT rfl rfl rfl rfl rfl rfl rfl rfl rfl rfl rfl rfl rfl ?_)))
          refine r_append hT rfl rfl rfl rfl rfl rfl rfl rfl rfl rfl rfl rfl rfl rfl rfl rfl rfl (by simp only [List.length_cons, List.length_nil, List.length_map, maxLen]; exact ⟨by omega, by show _ * 32 ≤ _; omega⟩) ?_
          skip
          refine r_idxS hT rfl rfl rfl rfl rfl rfl rfl rfl rfl rfl rfl rfl rfl (by omega) (by show b < (((g2).map Ls.rowO).set b (xb.rowO.set 8 .any)).length; simp only [List.length_map, List.length_set, List.length_append]; omega) ?_
          (repeat ((refine r_op ?_; refine r_pure hT rfl rfl rfl rfl rfl rfl ?_)))
          refine r_giveS (row := xb.rowO.set 8 .any) hT rfl rfl rfl rfl rfl rfl rfl rfl rfl rfl rfl rfl rfl rfl (List.getElem?_set_self (by simp only [List.length_map, List.length_append]; omega)) rfl ?_
          refine r_eqS _ (eO_link (a := b) xb ⟨_, _, _, _⟩ _) ?_
          have hG3 := hG2.add hxb (lk1 (i := wr .i64 ((a : Int) + 1)) (d := wr .i64 (2000 + (i : Int))) (c := wr .i64 (c + rm i 3)) hcr2)
          generalize g2.set b (xb.add _) = g3 at hG3 ⊢
          (repeat (first | refine r_end ?_ | (refine r_op ?_; refine r_pure hT rfl rfl rfl rfl rfl rfl ?_) | refine gi_plain ?_ | refine gi_inBlock ?_))
          refine next (i + 3, t + 1, g3) _ _ _ ⟨by simp only; omega, by simp only; omega, hG3.mono (by simp only; omega)⟩ (by simp only; omega) ⟨?_, ?_, rfl, rfl, rfl, rfl, rfl, trivial⟩ trivial ⟨rfl, trivial⟩
          · show some (I (wr .i64 ((i : Int) + 3))) = _
            rw [wr_i64 (by omega) (by omega)]
            simp
          · show some (I (wr .i64 ((t : Int) + 1))) = _
            rw [wr_i64 (by omega) (by omega)]
            simp
        · rw [leB_eq] at c2
          have c2 := of_decide_eq_false c2
          rw [List.length_map] at c2
          simp only at c2
          obtain ⟨o, ho⟩ : ∃ o, one[t]? = some o := ⟨_, List.getElem?_eq_getElem (by omega)⟩
          (repeat ((refine r_op ?_; refine r_pure hT rfl rfl rfl rfl rfl rfl ?_)))
          refine r_idx (row := [.v (.bool o)]) hT rfl rfl rfl rfl rfl rfl rfl rfl rfl rfl rfl rfl (by omega) (by simp [ho]) ?_
          (repeat (first | refine r_end ?_ | (refine r_op ?_; first | refine r_pure hT rfl rfl rfl rfl rfl rfl ?_ | refine r_load hT rfl rfl rfl rfl rfl rfl rfl rfl rfl ?_)))
          refine gi_cond rfl (fun c3 => ?_) (fun c3 => ?_)
          · (repeat (first | (refine r_op ?_; refine r_pure hT rfl rfl rfl rfl rfl rfl ?_) | refine gi_plain ?_))
            refine r_idxS hT rfl rfl rfl rfl rfl rfl rfl rfl rfl rfl rfl rfl rfl (by omega) (by show b < ((g2).map Ls.rowO).length; simp only [List.length_map, List.length_set, List.length_append]; omega) ?_
            (repeat ((refine r_op ?_; refine r_pure hT rfl rfl rfl rfl rfl rfl ?_)))
            refine r_takeS (row := xb.rowO) hT rfl rfl rfl rfl rfl rfl rfl rfl (by show ((g2).map Ls.rowO)[b]? = _; rw [List.getElem?_map, hxb]; rfl) rfl rfl rfl rfl ?_
            (repeat ((refine r_op ?_; first | refine r_pure hT rfl rfl rfl rfl rfl rfl ?_ | refine r_lit hT rfl rfl rfl rfl rfl rfl rfl rfl rfl rfl rfl rfl rfl ?_)))
            refine r_append hT rfl rfl rfl rfl rfl rfl rfl rfl rfl rfl rfl rfl rfl rfl rfl rfl rfl (by simp only [List.length_cons, List.length_nil, List.length_map, maxLen]; exact ⟨by omega, by show _ * 32 ≤ _; omega⟩) ?_
            skip
            refine r_idxS hT rfl rfl rfl rfl rfl rfl rfl rfl rfl rfl rfl rfl rfl (by omega) (by show b < (((g2).map Ls.rowO).set b (xb.rowO.set 8 .any)).length; simp only [List.length_map, List.length_set, List.length_append]; omega) ?_
            (repeat ((refine r_op ?_; refine r_pure hT rfl rfl rfl rfl rfl rfl ?_)))
            refine r_giveS (row := xb.rowO.set 8 .any) hT rfl rfl rfl rfl rfl rfl rfl rfl rfl rfl rfl rfl rfl rfl (List.getElem?_set_self (by simp only [List.length_map, List.length_append]; omega)) rfl ?_
            refine r_eqS _ (eO_link (a := b) xb ⟨_, _, _, _⟩ _) ?_
            have hG3 := hG2.add hxb (lk1 (i := wr .i64 ((a : Int) + 1)) (d := wr .i64 (2000 + (i : Int))) (c := wr .i64 (c + rm i 3)) hcr2)
            generalize g2.set b (xb.add _) = g3 at hG3 ⊢
            (repeat (first | refine r_end ?_ | (refine r_op ?_; refine r_pure hT rfl rfl rfl rfl rfl rfl ?_) | refine gi_plain ?_ | refine gi_inBlock ?_))
            refine next (i + 3, t + 1, g3) _ _ _ ⟨by simp only; omega, by simp only; omega, hG3.mono (by simp only; omega)⟩ (by simp only; omega) ⟨?_, ?_, rfl, rfl, rfl, rfl, rfl, trivial⟩ trivial ⟨rfl, trivial⟩
            · show some (I (wr .i64 ((i : Int) + 3))) = _
              rw [wr_i64 (by omega) (by omega)]
              simp
            · show some (I (wr .i64 ((t : Int) + 1))) = _
              rw [wr_i64 (by omega) (by omega)]
              simp
          · (repeat (first | refine r_end ?_ | (refine r_op ?_; refine r_pure hT rfl rfl rfl rfl rfl rfl ?_) | refine gi_plain ?_ | refine gi_skip ?_ | refine gi_inBlock ?_))
            refine next (i + 3, t + 1, g2) _ _ _ ⟨by simp only; omega, by simp only; omega, hG2.mono (by simp only; omega)⟩ (by simp only; omega) ⟨?_, ?_, rfl, rfl, rfl, rfl, rfl, trivial⟩ trivial ⟨rfl, trivial⟩
            · show some (I (wr .i64 ((i : Int) + 3))) = _
              rw [wr_i64 (by omega) (by omega)]
              simp
            · show some (I (wr .i64 ((t : Int) + 1))) = _
              rw [wr_i64 (by omega) (by omega)]
              simp
      · (repeat (first | refine gi_seq ?_ | refine gi_exit rfl ?_))
        exact fin () _ _ _ trivial ⟨rfl, rfl, rfl, rfl, rfl, rfl, trivial⟩ trivial ⟨rfl, trivial⟩
    · (repeat (first | refine r_end ?_ | (refine r_op ?_; first | refine r_pure hT rfl rfl rfl rfl rfl rfl ?_ | refine r_off rfl rfl rfl rfl rfl ?_) | refine gi_seq ?_ | refine gi_exit rfl ?_ | (refine gi_cnd ?_; first | refine gi_true rfl ?_ | refine gi_false rfl ?_)))
      exact fin () _ _ _ trivial ⟨rfl, rfl, rfl, rfl, rfl, rfl, trivial⟩ trivial ⟨rfl, trivial⟩
  case after =>
    intro _ _
    (repeat (first | refine r_end ?_ | (refine r_op ?_; refine r_pure hT rfl rfl rfl rfl rfl rfl ?_) | refine gi_plain ?_ | refine gi_block ?_))
    refine gi_loop (σ := Nat × Nat × List Ls × List Ls) (fun s => [(17, I s.1), (12, I s.2.1), (9, I j), (10, .sl 0), (1, rs8 ps), (2, rs8 qs), (3, rsB one)]) (fun _ => []) (fun s => [eO (s.2.2.1 ++ s.2.2.2)]) (fun s => s.1 ≤ 8 ∧ s.2.1 ≤ 40 + 8 * s.1 ∧ Gs j (40 + 8 * s.1) s.2.2.1 ∧ NsOk s.2.2.2 ∧ s.2.2.2.length = s.1) (fun s => 10 - s.1) (0, t, gs, []) ⟨Nat.zero_le _, by simp only; omega, hG.mono (by simp only; omega), NsOk.nil, rfl⟩ ⟨rfl, rfl, rfl, rfl, rfl, rfl, rfl, trivial⟩ trivial ⟨by rw [List.append_nil], trivial⟩ (fun _ => rfl) (fun s hs next => ?_)
    obtain ⟨i2, t, gs, ns⟩ := s
    obtain ⟨hi2, ht, hG, hN, hnl⟩ := hs
    simp only at hi2 ht hG hN hnl
    have hgl := hG.len
    (repeat (refine gi_seq ?_))
    apply gi_cut (σ := Unit) (fun _ => [(12, I t), (9, I j), (10, .sl 0), (1, rs8 ps), (2, rs8 qs), (3, rsB one)]) (fun _ => []) (fun _ => [eO (gs ++ ns)]) (fun _ => True) (fun _ => rfl)
    case first =>
      intro fin
      (repeat (first | (refine r_op ?_; refine r_pure hT rfl rfl rfl rfl rfl rfl ?_) | refine gi_plain ?_))
      refine r_case (d := 128) rfl (fun c1 => ?_) (fun c1 => ?_)
      · rw [ltB_eq] at c1
        have c1 := of_decide_eq_true c1
        rw [List.length_map] at c1
        (repeat (first | refine r_end ?_ | (refine r_op ?_; refine r_pure hT rfl rfl rfl rfl rfl rfl ?_)))
        refine gi_lt rfl (fun h4 => ?_) (fun h4 => ?_)
        · obtain ⟨p0, hp0⟩ : ∃ x, qs[i2]? = some x := ⟨_, List.getElem?_eq_getElem (by omega)⟩
          have r0 := hqs p0 (List.mem_of_getElem? hp0)
          obtain ⟨a, ha, hal⟩ := idx_nat (k := j) (by omega) r0.1
          obtain ⟨id, hid⟩ : ∃ id : Int, id = (101 + (i2 : Int)) * 256 := ⟨_, rfl⟩
          have hidw : wr .i64 (wr .i64 (101 + (i2 : Int)) * 2 ^ (min (8 : Int).toNat (IntKind.bits .i64))) = id := by
            rw [wr_i64 (n := 101 + (i2 : Int)) (by omega) (by omega), show (2 : Int) ^ (min (8 : Int).toNat (IntKind.bits .i64)) = 256 from rfl, wr_i64 (by omega) (by omega), hid]
          (repeat (first | (refine r_op ?_; refine r_pure hT rfl rfl rfl rfl rfl rfl ?_) | refine gi_seq ?_ | refine gi_plain ?_ | refine gi_skip ?_ | refine gi_block ?_))
          refine r_shl (n := id) rfl rfl rfl rfl rfl rfl rfl rfl (by decide) hidw ?_
          (repeat ((refine r_op ?_; refine r_pure hT rfl rfl rfl rfl rfl rfl ?_)))
          refine r_idx (row := [.v (.int .u8 p0)]) hT rfl rfl rfl rfl rfl rfl rfl rfl rfl rfl rfl rfl (by omega) (by simp [hp0]) ?_
          (repeat ((refine r_op ?_; first | refine r_pure hT rfl rfl rfl rfl rfl rfl ?_ | refine r_load hT rfl rfl rfl rfl rfl rfl rfl rfl rfl ?_)))
          refine r_rem (n := a) (p' := (j : Int)) rfl rfl rfl rfl rfl rfl rfl rfl (by omega) (by rw [wr_i64 (n := p0) (by omega) (by omega), ha]) ?_
          (repeat (first | refine r_end ?_ | (refine r_op ?_; first | refine r_pure hT rfl rfl rfl rfl rfl rfl ?_ | refine r_store hT rfl rfl rfl rfl rfl rfl rfl rfl rfl rfl ?_ | refine r_alloc hT rfl rfl rfl rfl rfl rfl rfl rfl rfl ?_) | refine gi_seq ?_ | refine gi_plain ?_ | refine gi_block ?_))
          refine gi_adoptH (e := 3) (sz := 1) 0 10 rfl rfl ?_
          refine gi_loop (σ := Nat × Nat × List Ls × List Int) (fun s => [(19, I s.1), (12, I s.2.1), (17, I i2), (18, .box 0 0), (9, I j), (10, .sl 0), (1, rs8 ps), (2, rs8 qs), (3, rsB one)]) (fun _ => [some (51, [I 0, I 2, I id, I (wr .i64 (1 + a)), I 0, I 0, I 0, I 0, .r (.v (.slice none 0 0)), I 24, .sl 1, .r (.v (.slice none 0 0))])]) (fun s => [eO (s.2.2.1 ++ ns), eN s.2.2.2]) (fun s => s.1 ≤ j ∧ s.2.1 ≤ 40 + 8 * i2 + s.1 ∧ Gs j (40 + 8 * i2 + s.1) s.2.2.1 ∧ s.2.2.2.length ≤ s.1) (fun s => j - s.1) (0, t, gs, []) ⟨Nat.zero_le _, ht, hG, Nat.le_refl _⟩ ⟨rfl, rfl, rfl, rfl, rfl, rfl, rfl, rfl, rfl, trivial⟩ ⟨rfl, trivial⟩ ⟨rfl, rfl, trivial⟩ (fun _ => rfl) (fun s hs next2 => ?_)
          obtain ⟨r, t, gs, rt⟩ := s
          obtain ⟨hr, ht, hG, hrt⟩ := hs
          simp only at hr ht hG hrt
          have hgl := hG.len
          (repeat (first | refine r_end ?_ | (refine r_op ?_; refine r_pure hT rfl rfl rfl rfl rfl rfl ?_) | refine gi_seq ?_ | refine gi_plain ?_))
          refine gi_lt rfl (fun h5 => ?_) (fun h5 => ?_)
          · (repeat (first | (refine r_op ?_; refine r_pure hT rfl rfl rfl rfl rfl rfl ?_) | refine gi_seq ?_ | refine gi_plain ?_ | refine gi_skip ?_ | refine gi_block ?_))
            refine r_idx (row := [.v (.int .u8 p0)]) hT rfl rfl rfl rfl rfl rfl rfl rfl rfl rfl rfl rfl (by omega) (by simp [hp0]) ?_
            (repeat ((refine r_op ?_; first | refine r_pure hT rfl rfl rfl rfl rfl rfl ?_ | refine r_load hT rfl rfl rfl rfl rfl rfl rfl rfl rfl ?_)))
            refine r_shr rfl rfl rfl rfl rfl rfl rfl rfl (by rw [wr_eq]; show 0 ≤ (IntKind.u64).wrap _; rw [IntKind.wrap_u64]; omega) rfl ?_
            (repeat (first | refine r_end ?_ | (refine r_op ?_; refine r_pure hT rfl rfl rfl rfl rfl rfl ?_)))
            refine gi_cond rfl (fun c5 => ?_) (fun c5 => ?_)
            · (repeat (first | refine r_end ?_ | (refine r_op ?_; refine r_pure hT rfl rfl rfl rfl rfl rfl ?_) | refine gi_plain ?_ | refine gi_exit rfl ?_))
              refine next2 (r + 1, t, gs, rt) _ _ _ ⟨by simp only; omega, by simp only; omega, hG.mono (by simp only; omega), by simp only; omega⟩ (by simp only; omega) ⟨?_, rfl, rfl, rfl, rfl, rfl, rfl, rfl, rfl, trivial⟩ ⟨rfl, trivial⟩ ⟨rfl, rfl, trivial⟩
              show some (I (wr .i64 ((r : Int) + 1))) = _
              rw [wr_i64 (by omega) (by omega)]
              simp
            (repeat (first | (refine r_op ?_; first | refine r_pure hT rfl rfl rfl rfl rfl rfl ?_ | refine r_load hT rfl rfl rfl rfl rfl rfl rfl rfl rfl ?_ | refine r_lit hT rfl rfl rfl rfl rfl rfl rfl rfl rfl rfl rfl rfl rfl ?_) | refine gi_seq ?_ | refine gi_plain ?_ | refine gi_skip ?_))
            refine r_append hT rfl rfl rfl rfl rfl rfl rfl rfl rfl rfl rfl rfl rfl rfl rfl rfl rfl (by simp only [List.length_cons, List.length_nil, List.length_map, maxLen]; exact ⟨by omega, by show _ * 8 ≤ _; omega⟩) ?_
            (repeat (first | refine r_end ?_ | (refine r_op ?_; first | refine r_pure hT rfl rfl rfl rfl rfl rfl ?_ | refine r_store hT rfl rfl rfl rfl rfl rfl rfl rfl rfl rfl ?_) | refine gi_seq ?_))
            refine gi_pick [0] [0, 1] rfl rfl rfl rfl rfl ?_
            refine gi_eqS [eO (gs ++ ns), eN (rt ++ [wr .i64 ((r : Int) + 1)])] (by rw [eN, List.map_append]; rfl) ?_
            obtain ⟨xr, hxr⟩ : ∃ x, gs[r]? = some x := ⟨_, List.getElem?_eq_getElem (by omega)⟩
            have hlr := (hG.el r xr hxr).2.2
            have hcr : 0 ≤ wr .i64 (1 + rm (wr .i64 ((i2 : Int) + r)) 4) ∧ wr .i64 (1 + rm (wr .i64 ((i2 : Int) + r)) 4) ≤ 6 := by rw [wr_i64 (n := (i2 : Int) + r) (by omega) (by omega)]; exact cost_rm 4 (by omega) (by omega) (by omega)
            (repeat (first | (refine r_op ?_; refine r_pure hT rfl rfl rfl rfl rfl rfl ?_) | refine gi_plain ?_))
            refine r_case (d := 172) rfl (fun c2 => ?_) (fun c2 => ?_)
            · (repeat (first | refine r_end ?_ | (refine r_op ?_; first | refine r_pure hT rfl rfl rfl rfl rfl rfl ?_ | refine r_off rfl rfl rfl rfl rfl ?_) | refine gi_plain ?_ | (refine gi_cnd ?_; first | refine gi_true rfl ?_ | refine gi_false rfl ?_)))
              refine r_idxS hT rfl rfl rfl rfl rfl rfl rfl rfl rfl rfl rfl rfl rfl (by omega) (by show r < ((gs ++ ns).map Ls.rowO).length; simp only [List.length_map, List.length_set, List.length_append]; omega) ?_
              (repeat ((refine r_op ?_; refine r_pure hT rfl rfl rfl rfl rfl rfl ?_)))
              refine r_takeS (row := xr.rowO) hT rfl rfl rfl rfl rfl rfl rfl rfl (by show ((gs ++ ns).map Ls.rowO)[r]? = _; rw [List.getElem?_map, List.getElem?_append_left (by omega), hxr]; rfl) rfl rfl rfl rfl ?_
              (repeat ((refine r_op ?_; refine r_pure hT rfl rfl rfl rfl rfl rfl ?_)))
              refine r_shl (n := id) rfl rfl rfl rfl rfl rfl rfl rfl (by decide) hidw ?_
              (repeat ((refine r_op ?_; refine r_pure hT rfl rfl rfl rfl rfl rfl ?_)))
              refine r_shl (n := id) rfl rfl rfl rfl rfl rfl rfl rfl (by decide) hidw ?_
              (repeat ((refine r_op ?_; first | refine r_pure hT rfl rfl rfl rfl rfl rfl ?_ | refine r_lit hT rfl rfl rfl rfl rfl rfl rfl rfl rfl rfl rfl rfl rfl ?_)))
              refine r_append hT rfl rfl rfl rfl rfl rfl rfl rfl rfl rfl rfl rfl rfl rfl rfl rfl rfl (by simp only [List.length_cons, List.length_nil, List.length_map, maxLen]; exact ⟨by omega, by show _ * 32 ≤ _; omega⟩) ?_
              skip
              refine r_idxS hT rfl rfl rfl rfl rfl rfl rfl rfl rfl rfl rfl rfl rfl (by omega) (by show r < (((gs ++ ns).map Ls.rowO).set r (xr.rowO.set 8 .any)).length; simp only [List.length_map, List.length_set, List.length_append]; omega) ?_
              (repeat ((refine r_op ?_; refine r_pure hT rfl rfl rfl rfl rfl rfl ?_)))
              refine r_giveS (row := xr.rowO.set 8 .any) hT rfl rfl rfl rfl rfl rfl rfl rfl rfl rfl rfl rfl rfl rfl (List.getElem?_set_self (by simp only [List.length_map, List.length_append]; omega)) rfl ?_
              refine r_eqS _ (eO_link2 (a := r) (gs := gs) (ns := ns) (by omega) xr ⟨_, _, _, _⟩ _) ?_
              have hG3 := hG.add hxr (lk2 (i := id) (d := wr .i64 (wr .i64 (id + 1) + r)) (c := wr .i64 (1 + rm (wr .i64 ((i2 : Int) + r)) 4)) ⟨hcr.1, by omega⟩)
              generalize gs.set r (xr.add _) = g3 at hG3 ⊢
              (repeat (first | refine r_end ?_ | (refine r_op ?_; refine r_pure hT rfl rfl rfl rfl rfl rfl ?_) | refine gi_plain ?_ | refine gi_inBlock ?_))
              refine next2 (r + 1, t + 1, g3, rt ++ [wr .i64 ((r : Int) + 1)]) _ _ _ ⟨by simp only; omega, by simp only; omega, hG3.mono (by simp only; omega), by simp only [List.length_append, List.length_singleton]; omega⟩ (by simp only; omega) ⟨?_, ?_, rfl, rfl, rfl, rfl, rfl, rfl, rfl, trivial⟩ ⟨rfl, trivial⟩ ⟨rfl, rfl, trivial⟩
              · show some (I (wr .i64 ((r : Int) + 1))) = _
                rw [wr_i64 (by omega) (by omega)]
                simp
              · show some (I (wr .i64 ((t : Int) + 1))) = _
                rw [wr_i64 (by omega) (by omega)]
                simp
            · rw [leB_eq] at c2
              have c2 := of_decide_eq_false c2
              rw [List.length_map] at c2
              simp only at c2
              obtain ⟨o, ho⟩ : ∃ o, one[t]? = some o := ⟨_, List.getElem?_eq_getElem (by omega)⟩
              (repeat ((refine r_op ?_; refine r_pure hT rfl rfl rfl rfl rfl rfl ?_)))
              refine r_idx (row := [.v (.bool o)]) hT rfl rfl rfl rfl rfl rfl rfl rfl rfl rfl rfl rfl (by omega) (by simp [ho]) ?_
              (repeat (first | refine r_end ?_ | (refine r_op ?_; first | refine r_pure hT rfl rfl rfl rfl rfl rfl ?_ | refine r_load hT rfl rfl rfl rfl rfl rfl rfl rfl rfl ?_)))
              refine gi_cond rfl (fun c3 => ?_) (fun c3 => ?_)
              · (repeat (first | (refine r_op ?_; refine r_pure hT rfl rfl rfl rfl rfl rfl ?_) | refine gi_plain ?_))
                refine r_idxS hT rfl rfl rfl rfl rfl rfl rfl rfl rfl rfl rfl rfl rfl (by omega) (by show r < ((gs ++ ns).map Ls.rowO).length; simp only [List.length_map, List.length_set, List.length_append]; omega) ?_
                (repeat ((refine r_op ?_; refine r_pure hT rfl rfl rfl rfl rfl rfl ?_)))
                refine r_takeS (row := xr.rowO) hT rfl rfl rfl rfl rfl rfl rfl rfl (by show ((gs ++ ns).map Ls.rowO)[r]? = _; rw [List.getElem?_map, List.getElem?_append_left (by omega), hxr]; rfl) rfl rfl rfl rfl ?_
                (repeat ((refine r_op ?_; refine r_pure hT rfl rfl rfl rfl rfl rfl ?_)))
                refine r_shl (n := id) rfl rfl rfl rfl rfl rfl rfl rfl (by decide) hidw ?_
                (repeat ((refine r_op ?_; refine r_pure hT rfl rfl rfl rfl rfl rfl ?_)))
                refine r_shl (n := id) rfl rfl rfl rfl rfl rfl rfl rfl (by decide) hidw ?_
                (repeat ((refine r_op ?_; first | refine r_pure hT rfl rfl rfl rfl rfl rfl ?_ | refine r_lit hT rfl rfl rfl rfl rfl rfl rfl rfl rfl rfl rfl rfl rfl ?_)))
                refine r_append hT rfl rfl rfl rfl rfl rfl rfl rfl rfl rfl rfl rfl rfl rfl rfl rfl rfl (by simp only [List.length_cons, List.length_nil, List.length_map, maxLen]; exact ⟨by omega, by show _ * 32 ≤ _; omega⟩) ?_
                skip
                refine r_idxS hT rfl rfl rfl rfl rfl rfl rfl rfl rfl rfl rfl rfl rfl (by omega) (by show r < (((gs ++ ns).map Ls.rowO).set r (xr.rowO.set 8 .any)).length; simp only [List.length_map, List.length_set, List.length_append]; omega) ?_
                (repeat ((refine r_op ?_; refine r_pure hT rfl rfl rfl rfl rfl rfl ?_)))
                refine r_giveS (row := xr.rowO.set 8 .any) hT rfl rfl rfl rfl rfl rfl rfl rfl rfl rfl rfl rfl rfl rfl (List.getElem?_set_self (by simp only [List.length_map, List.length_append]; omega)) rfl ?_
                refine r_eqS _ (eO_link2 (a := r) (gs := gs) (ns := ns) (by omega) xr ⟨_, _, _, _⟩ _) ?_
                have hG3 := hG.add hxr (lk2 (i := id) (d := wr .i64 (wr .i64 (id + 1) + r)) (c := wr .i64 (1 + rm (wr .i64 ((i2 : Int) + r)) 4)) ⟨hcr.1, by omega⟩)
                generalize gs.set r (xr.add _) = g3 at hG3 ⊢
                (repeat (first | refine r_end ?_ | (refine r_op ?_; refine r_pure hT rfl rfl rfl rfl rfl rfl ?_) | refine gi_plain ?_ | refine gi_inBlock ?_))
                refine next2 (r + 1, t + 1, g3, rt ++ [wr .i64 ((r : Int) + 1)]) _ _ _ ⟨by simp only; omega, by simp only; omega, hG3.mono (by simp only; omega), by simp only [List.length_append, List.length_singleton]; omega⟩ (by simp only; omega) ⟨?_, ?_, rfl, rfl, rfl, rfl, rfl, rfl, rfl, trivial⟩ ⟨rfl, trivial⟩ ⟨rfl, rfl, trivial⟩
                · show some (I (wr .i64 ((r : Int) + 1))) = _
                  rw [wr_i64 (by omega) (by omega)]
                  simp
                · show some (I (wr .i64 ((t : Int) + 1))) = _
                  rw [wr_i64 (by omega) (by omega)]
                  simp
              · (repeat (first | refine r_end ?_ | (refine r_op ?_; refine r_pure hT rfl rfl rfl rfl rfl rfl ?_) | refine gi_plain ?_ | refine gi_skip ?_ | refine gi_inBlock ?_))
                refine next2 (r + 1, t + 1, gs, rt ++ [wr .i64 ((r : Int) + 1)]) _ _ _ ⟨by simp only; omega, by simp only; omega, hG.mono (by simp only; omega), by simp only [List.length_append, List.length_singleton]; omega⟩ (by simp only; omega) ⟨?_, ?_, rfl, rfl, rfl, rfl, rfl, rfl, rfl, trivial⟩ ⟨rfl, trivial⟩ ⟨rfl, rfl, trivial⟩
                · show some (I (wr .i64 ((r : Int) + 1))) = _
                  rw [wr_i64 (by omega) (by omega)]
                  simp
                · show some (I (wr .i64 ((t : Int) + 1))) = _
                  rw [wr_i64 (by omega) (by omega)]
                  simp
          · (repeat (refine gi_exit rfl ?_))
            refine gi_freeze 1 rfl rfl ?_
            (repeat (first | (refine r_op ?_; first | refine r_pure hT rfl rfl rfl rfl rfl rfl ?_ | refine r_load hT rfl rfl rfl rfl rfl rfl rfl rfl rfl ?_ | refine r_lit hT rfl rfl rfl rfl rfl rfl rfl rfl rfl rfl rfl rfl rfl ?_) | refine gi_plain ?_))
            refine r_append hT rfl rfl rfl rfl rfl rfl rfl rfl rfl rfl rfl rfl rfl rfl rfl rfl rfl (by simp only [List.length_cons, List.length_nil, List.length_map, List.length_append, maxLen]; exact ⟨by omega, by show _ * 144 ≤ _; omega⟩) ?_
            (repeat (first | refine r_end ?_ | (refine r_op ?_; refine r_pure hT rfl rfl rfl rfl rfl rfl ?_) | refine gi_plain ?_ | refine gi_inBlock ?_))
            refine gi_rows 0 (se' := seO ((gs ++ ns) ++ [⟨0, 2, id, wr .i64 (1 + a), 0, 0, 0, 0, [], 24, rt, []⟩])) rfl ⟨rfl, rfl, by simp⟩ (by rw [eO_snoc (gs ++ ns) _ _ rfl]; exact rows_last (raw_le (le_same _))) ?_
            refine next (i2 + 1, t, gs, ns ++ [⟨0, 2, id, wr .i64 (1 + a), 0, 0, 0, 0, [], 24, rt, []⟩]) _ _ _ ⟨by simp only; omega, by simp only; omega, hG.mono (by simp only; omega), fun y hy => ?_, by simp only [List.length_append, List.length_singleton]; omega⟩ (by simp only; omega) ⟨?_, rfl, rfl, rfl, rfl, rfl, rfl, trivial⟩ trivial ⟨by rw [← List.append_assoc], trivial⟩
            · rcases List.mem_append.1 hy with hy | hy
              · exact hN y hy
              · rw [List.mem_singleton.1 hy]
                exact ⟨rfl, by simp only; omega, by simp only; omega, by simp only; omega, by simp only; omega⟩
            · show some (I (wr .i64 ((i2 : Int) + 1))) = _
              rw [wr_i64 (by omega) (by omega)]
              simp
        · (repeat (first | refine gi_seq ?_ | refine gi_exit rfl ?_))
          exact fin () _ _ _ trivial ⟨rfl, rfl, rfl, rfl, rfl, rfl, trivial⟩ trivial ⟨rfl, trivial⟩
      · (repeat (first | refine r_end ?_ | (refine r_op ?_; first | refine r_pure hT rfl rfl rfl rfl rfl rfl ?_ | refine r_off rfl rfl rfl rfl rfl ?_) | refine gi_seq ?_ | refine gi_exit rfl ?_ | (refine gi_cnd ?_; first | refine gi_true rfl ?_ | refine gi_false rfl ?_)))
        exact fin () _ _ _ trivial ⟨rfl, rfl, rfl, rfl, rfl, rfl, trivial⟩ trivial ⟨rfl, trivial⟩
    case after =>
      intro _ _
      (repeat (first | refine r_end ?_ | (refine r_op ?_; refine r_pure hT rfl rfl rfl rfl rfl rfl ?_) | refine gi_plain ?_ | refine gi_block ?_))
      refine gi_loop (σ := Nat × List Ls) (fun s => [(20, I s.1), (9, I j), (10, .sl 0)]) (fun _ => []) (fun s => [eO (s.2 ++ ns)]) (fun s => s.1 ≤ j ∧ Gs j (110 + s.1) s.2) (fun s => j - s.1) (0, gs) ⟨Nat.zero_le _, hG.mono (by simp only; omega)⟩ ⟨rfl, rfl, rfl, trivial⟩ trivial ⟨rfl, trivial⟩ (fun _ => rfl) (fun s hs next => ?_)
      obtain ⟨r, gs⟩ := s
      obtain ⟨hr, hG⟩ := hs
      simp only at hr hG
      have hgl := hG.len
      (repeat (first | refine r_end ?_ | (refine r_op ?_; refine r_pure hT rfl rfl rfl rfl rfl rfl ?_) | refine gi_seq ?_ | refine gi_plain ?_))
      refine gi_lt rfl (fun h5 => ?_) (fun h5 => ?_)
      · obtain ⟨xr, hxr⟩ : ∃ x, gs[r]? = some x := ⟨_, List.getElem?_eq_getElem (by omega)⟩
        have hlr := (hG.el r xr hxr).2.2
        have hcr : 0 ≤ wr .i64 (1 + rm (r : Int) 3) ∧ wr .i64 (1 + rm (r : Int) 3) ≤ 6 := cost_rm 3 (by omega) (by omega) (by omega)
        obtain ⟨id, hid⟩ : ∃ id : Int, id = (201 + (r : Int)) * 256 := ⟨_, rfl⟩
        have hidw : wr .i64 (wr .i64 (201 + (r : Int)) * 2 ^ (min (8 : Int).toNat (IntKind.bits .i64))) = id := by
          rw [wr_i64 (n := 201 + (r : Int)) (by omega) (by omega), show (2 : Int) ^ (min (8 : Int).toNat (IntKind.bits .i64)) = 256 from rfl, wr_i64 (by omega) (by omega), hid]
        (repeat (first | (refine r_op ?_; refine r_pure hT rfl rfl rfl rfl rfl rfl ?_) | refine gi_seq ?_ | refine gi_plain ?_ | refine gi_skip ?_ | refine gi_block ?_))
        refine r_idxS hT rfl rfl rfl rfl rfl rfl rfl rfl rfl rfl rfl rfl rfl (by omega) (by show r < ((gs ++ ns).map Ls.rowO).length; simp only [List.length_map, List.length_set, List.length_append]; omega) ?_
        (repeat ((refine r_op ?_; refine r_pure hT rfl rfl rfl rfl rfl rfl ?_)))
        refine r_takeS (row := xr.rowO) hT rfl rfl rfl rfl rfl rfl rfl rfl (by show ((gs ++ ns).map Ls.rowO)[r]? = _; rw [List.getElem?_map, List.getElem?_append_left (by omega), hxr]; rfl) rfl rfl rfl rfl ?_
        (repeat ((refine r_op ?_; refine r_pure hT rfl rfl rfl rfl rfl rfl ?_)))
        refine r_shl (n := id) rfl rfl rfl rfl rfl rfl rfl rfl (by decide) hidw ?_
        (repeat ((refine r_op ?_; first | refine r_pure hT rfl rfl rfl rfl rfl rfl ?_ | refine r_lit hT rfl rfl rfl rfl rfl rfl rfl rfl rfl rfl rfl rfl rfl ?_)))
        refine r_append hT rfl rfl rfl rfl rfl rfl rfl rfl rfl rfl rfl rfl rfl rfl rfl rfl rfl (by simp only [List.length_cons, List.length_nil, List.length_map, maxLen]; exact ⟨by omega, by show _ * 32 ≤ _; omega⟩) ?_
        skip
        refine r_idxS hT rfl rfl rfl rfl rfl rfl rfl rfl rfl rfl rfl rfl rfl (by omega) (by show r < (((gs ++ ns).map Ls.rowO).set r (xr.rowO.set 8 .any)).length; simp only [List.length_map, List.length_set, List.length_append]; omega) ?_
        (repeat ((refine r_op ?_; refine r_pure hT rfl rfl rfl rfl rfl rfl ?_)))
        refine r_giveS (row := xr.rowO.set 8 .any) hT rfl rfl rfl rfl rfl rfl rfl rfl rfl rfl rfl rfl rfl rfl (List.getElem?_set_self (by simp only [List.length_map, List.length_append]; omega)) rfl ?_
        refine r_eqS _ (eO_link2 (a := r) (gs := gs) (ns := ns) (by omega) xr ⟨_, _, _, _⟩ _) ?_
        have hG3 := hG.add hxr (q := ⟨3, id, 4294967040, wr .i64 (1 + rm (r : Int) 3)⟩) ⟨hcr.1, by simp only; omega, fun _ => ⟨rfl, by simp only; omega, by simp only; omega, by simp only; omega⟩⟩
        generalize gs.set r (xr.add _) = g3 at hG3 ⊢
        (repeat (first | refine r_end ?_ | (refine r_op ?_; refine r_pure hT rfl rfl rfl rfl rfl rfl ?_) | refine gi_plain ?_ | refine gi_inBlock ?_))
        refine next (r + 1, g3) _ _ _ ⟨by simp only; omega, hG3.mono (by simp only; omega)⟩ (by simp only; omega) ⟨?_, rfl, rfl, trivial⟩ trivial ⟨rfl, trivial⟩
        show some (I (wr .i64 ((r : Int) + 1))) = _
        rw [wr_i64 (by omega) (by omega)]
        simp
      · (repeat (first | refine r_end ?_ | (refine r_op ?_; refine r_pure hT rfl rfl rfl rfl rfl rfl ?_) | refine gi_seq ?_ | refine gi_plain ?_ | refine gi_exit rfl ?_))
        refine gi_retX hT Try.func28 rfl [] [0] rfl rfl rfl rfl rfl rfl rfl rfl ?_
        exact ⟨gs ++ ns, ⟨j, gs, ns, hk, rfl, hG.mono (by omega), hN, by omega⟩, rfl, rfl, rfl⟩
end Go.Proofs.Ytmocggibcniggaa.Kt
