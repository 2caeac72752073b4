/- Part of the proofs of this seat's statements: what the functions compute. No condition. -/
import Derived.Test.YtmocggibcniggaaC18H
set_option linter.unusedSimpArgs false
set_option linter.unusedVariables false
namespace Go.Proofs.Ytmocggibcniggaa.Kt
open Go Kw Go.Proofs
attribute [local irreducible] Kw.GI Kw.GR Kw.FnR Kw.FnX
set_option maxHeartbeats 16000000
set_option maxRecDepth 100000
structure Mp where
  vs : List Vt
  es : List Eg
  sb : List Sb
  sn : List Sn
  wl : List Int
def stF (i : Int) (k : Lk) : List Sb := match eqB k.k 3 && leB 0 (bitsF k.d) with
  | true => [⟨i, netF k.i (bitsF k.d), bitsF k.d, k.c⟩]
  | false => []
def snF (l : List Ls) (v : Vt) : List Sn := match eqB v.k 2 with
  | true => [⟨v, netF v.i ((findL l v).getD zLs).bits, ((findL l v).getD zLs).bits⟩]
  | false => []
def wl1 (l : List Ls) (v : Vt) : List Int := match notB (eqB (Go.bits .and .i64 ((findL l v).getD zLs).fl 8) 0) with
  | true => [v.i]
  | false => []
def wlF (l : List Ls) (v : Vt) : List Int := match eqB v.k 2 with
  | true => []
  | false => wl1 l v
def sbF (l : List Ls) (v : Vt) : List Sb := match eqB v.k 2 with
  | true => []
  | false => ((findL l v).getD zLs).lk.flatMap (stF v.i)
def mapL (l : List Ls) : Mp := ⟨vertsL l, (vertsL l).flatMap (fromL l), (vertsL l).flatMap (sbF l), (vertsL l).flatMap (snF l), (vertsL l).flatMap (wlF l)⟩
theorem flat_len {α β : Type} {f : α → List β} {c : Nat} (h : ∀ x, (f x).length ≤ c) : ∀ (l : List α), (l.flatMap f).length ≤ c * l.length
  | [] => by simp
  | x :: l => by
    have := flat_len h l
    have := h x
    rw [List.flatMap_cons, List.length_append, List.length_cons, Nat.mul_add]
    omega
theorem stF_len (i : Int) (k : Lk) : (stF i k).length ≤ 1 := by unfold stF; split <;> simp
theorem snF_len (l : List Ls) (k : Vt) : (snF l k).length ≤ 1 := by unfold snF; split <;> simp
theorem wl1_len (l : List Ls) (k : Vt) : (wl1 l k).length ≤ 1 := by unfold wl1; split <;> simp
theorem wlF_len (l : List Ls) (k : Vt) : (wlF l k).length ≤ 1 := by
  have := wl1_len l k
  unfold wlF; split
  · simp
  · exact this
theorem sbF_len {l : List Ls} (h : Few l) (k : Vt) : (sbF l k).length ≤ 1000 := by
  have h1 := flat_len (stF_len k.i) ((findL l k).getD zLs).lk
  have := h.fl k
  unfold sbF; split
  · simp
  · omega
theorem verts_len (l : List Ls) : (vertsL l).length ≤ 2 * l.length := by
  have := vfold_len l []
  simp only [List.length_nil] at this
  unfold vertsL
  omega
abbrev avM : AV := .agg [.sl 0, .sl 1, .sl 2, .sl 3, .sl 4]
abbrev SM (m : Mp) : Sp := [eV m.vs, eE m.es, eSb m.sb, eSn m.sn, eN m.wl]
abbrev hM (a b c d e : AV) : Option (TypeId × List AV) := some (31, [a, b, c, d, e])
abbrev nilA : AV := .r (.v (.slice none 0 0))
theorem eE_ap (a b : List Eg) : eE (a ++ b) = some (⟨69, 6, a.map Eg.row ++ b.map Eg.row, false⟩ : SE) := by rw [eE, List.map_append]
theorem eSn_ap (a b : List Sn) : eSn (a ++ b) = some (⟨78, 4, a.map Sn.row ++ b.map Sn.row, false⟩ : SE) := by rw [eSn, List.map_append]
theorem eSb_ap (a b : List Sb) : eSb (a ++ b) = some (⟨103, 4, a.map Sb.row ++ b.map Sb.row, false⟩ : SE) := by rw [eSb, List.map_append]
theorem eN_ap (a b : List Int) : eN (a ++ b) = some (⟨3, 1, a.map nRow ++ b.map nRow, false⟩ : SE) := by rw [eN, List.map_append]
theorem pl_E (l : List Eg) : ∀ row ∈ l.map Eg.row, ∀ x ∈ row, ∃ v, x = RV.v v := by
  intro row hr x hx
  obtain ⟨a, _, rfl⟩ := List.mem_map.1 hr
  simp only [Eg.row, List.mem_cons, List.not_mem_nil, or_false] at hx
  rcases hx with rfl | rfl | rfl | rfl | rfl | rfl <;> exact ⟨_, rfl⟩
theorem pEp {l : List Eg} : ∀ r S1, (r = .sl 0 ∧ S1 = [eE l]) → plainA r = true ∧ PlainS S1 := by
  rintro r S1 ⟨rfl, rfl⟩
  refine ⟨rfl, fun e he s hs => ?_⟩
  rw [List.mem_singleton.1 he] at hs
  cases hs
  exact ⟨rfl, pl_E l⟩
theorem from_R (l : List Ls) (v : Vt) (hw : Few l) : FnR Try.prog 46 [fsL l, v.av] (fun r S => r = .sl 0 ∧ S = [eE (fromL l v)]) := fnR_of ((from_ok l v hw).mono (fun r H S h => ⟨h.2.1, h.1, h.2.2⟩))
theorem Map_ok (l : List Ls) (hw : Few l) : FnX Try.prog 15 [fsL l] [] [] (fun r H S => r = avM ∧ H = [] ∧ S = SM (mapL l)) := by
  have hl0 := hw.len
  have hl : l.length < 1000000 := by omega
  have hvl := verts_len l
  refine fnX_intro (T := TT) (n := 115) Try.func15 rfl rfl rfl (fun w X Z Y B => ?_)
  (repeat (first | refine r_end ?_ | (refine r_op ?_; first | refine r_pure hT rfl rfl rfl rfl rfl rfl ?_ | refine r_alloc hT rfl rfl rfl rfl rfl rfl rfl rfl rfl ?_) | refine gi_seq ?_ | refine gi_plain ?_))
  refine r_callX [] [] (verts_ok l (by omega)) rfl rfl rfl rfl rfl rfl Try.func44 rfl rfl rfl rfl rfl rfl rfl pV1 ?_
  rintro r H1 S1 ⟨rfl, rfl, rfl⟩
  (repeat (first | refine r_end ?_ | (refine r_op ?_; first | refine r_pure hT rfl rfl rfl rfl rfl rfl ?_ | refine r_store hT rfl rfl rfl rfl rfl rfl rfl rfl rfl rfl ?_ | refine r_alloc hT rfl rfl rfl rfl rfl rfl rfl rfl rfl ?_) | refine gi_seq ?_ | refine gi_plain ?_ | refine gi_block ?_))
  obtain ⟨vs, hvs⟩ : ∃ vs, vs = vertsL l := ⟨_, rfl⟩
  rw [← hvs] at hvl
  rw [← hvs]
  refine gi_adoptH (e := 69) (sz := 6) 1 1 rfl rfl ?_
  refine gi_adoptH (e := 103) (sz := 4) 1 2 rfl rfl ?_
  refine gi_adoptH (e := 78) (sz := 4) 1 3 rfl rfl ?_
  refine gi_adoptH (e := 3) (sz := 1) 1 4 rfl rfl ?_
  refine gi_loop (σ := Nat) (fun j => [(4, I j), (3, .box 1 0), (2, .box 0 0), (0, fsL l)]) (fun _ => [hM nilA nilA nilA nilA nilA, hM (.sl 0) (.sl 1) (.sl 2) (.sl 3) (.sl 4)]) (fun j => [eV vs, eE ((vs.take j).flatMap (fromL l)), eSb ((vs.take j).flatMap (sbF l)), eSn ((vs.take j).flatMap (snF l)), eN ((vs.take j).flatMap (wlF l))]) (fun j => j ≤ vs.length) (fun j => vs.length - j) 0 (Nat.zero_le _) ⟨rfl, rfl, rfl, rfl, trivial⟩ ⟨rfl, rfl, trivial⟩ ⟨rfl, rfl, rfl, rfl, rfl, trivial⟩ (fun _ => rfl) (fun j hj next => ?_)
  have hj : j ≤ vs.length := hj
  (repeat (first | refine r_end ?_ | (refine r_op ?_; first | refine r_pure hT rfl rfl rfl rfl rfl rfl ?_ | refine r_load hT rfl rfl rfl rfl rfl rfl rfl rfl rfl ?_) | refine gi_seq ?_ | refine gi_plain ?_))
  refine gi_lt (q := ((vs.map Vt.row).length : Int)) rfl (fun h3 => ?_) (fun h3 => ?_)
  · rw [List.length_map] at h3
    have hjl : j < vs.length := by omega
    obtain ⟨v, hv⟩ : ∃ v, vs[j]? = some v := ⟨_, List.getElem?_eq_getElem hjl⟩
    have f1 := flat_take (fromL l) hv
    have f2 := flat_take (sbF l) hv
    have f3 := flat_take (snF l) hv
    have f4 := flat_take (wlF l) hv
    have b1 := flat_len (fun v => from_len hw v) (vs.take j)
    have b2 := flat_len (fun v => sbF_len hw v) (vs.take j)
    have b3 := flat_len (fun v => snF_len l v) (vs.take j)
    have b4 := flat_len (fun v => wlF_len l v) (vs.take j)
    have btk : (vs.take j).length ≤ 2000 := by rw [List.length_take]; omega
    obtain ⟨E, hE⟩ : ∃ E, E = (vs.take j).flatMap (fromL l) := ⟨_, rfl⟩
    obtain ⟨B, hB⟩ : ∃ B, B = (vs.take j).flatMap (sbF l) := ⟨_, rfl⟩
    obtain ⟨N, hN⟩ : ∃ N, N = (vs.take j).flatMap (snF l) := ⟨_, rfl⟩
    obtain ⟨W, hW⟩ : ∃ W, W = (vs.take j).flatMap (wlF l) := ⟨_, rfl⟩
    rw [← hE] at f1 b1; rw [← hB] at f2 b2; rw [← hN] at f3 b3; rw [← hW] at f4 b4
    rw [← hE, ← hB, ← hN, ← hW]
    obtain ⟨x, hx⟩ : ∃ x, x = (findL l v).getD zLs := ⟨_, rfl⟩
    have hxk : x.lk.length ≤ 1000 := hx ▸ hw.fl v
    have hfr := from_len hw v
    (repeat (first | (refine r_op ?_; first | refine r_pure hT rfl rfl rfl rfl rfl rfl ?_ | refine r_load hT rfl rfl rfl rfl rfl rfl rfl rfl rfl ?_) | refine gi_seq ?_ | refine gi_plain ?_ | refine gi_skip ?_ | refine gi_block ?_))
    refine r_idxS hT rfl rfl rfl rfl rfl rfl rfl rfl rfl rfl rfl rfl rfl (by (try dsimp only) <;> (try simp only [wrL, List.length_map, List.length_append, List.length_take, List.length_drop, List.length_replicate, List.length_cons, List.length_nil]) <;> omega) (by (try dsimp only) <;> (try simp only [wrL, List.length_map, List.length_append, List.length_take, List.length_drop, List.length_replicate, List.length_cons, List.length_nil]) <;> omega) ?_
    skip
    refine r_loadS (row := v.row) hT rfl rfl rfl rfl rfl rfl rfl rfl (by show (vs.map Vt.row)[((j : Int)).toNat]? = _; rw [Int.toNat_natCast, List.getElem?_map, hv]; rfl) rfl rfl rfl ?_
    (repeat (first | refine r_end ?_ | (refine r_op ?_; first | refine r_pure hT rfl rfl rfl rfl rfl rfl ?_ | refine r_load hT rfl rfl rfl rfl rfl rfl rfl rfl rfl ?_ | refine r_store hT rfl rfl rfl rfl rfl rfl rfl rfl rfl rfl ?_ | refine r_alloc hT rfl rfl rfl rfl rfl rfl rfl rfl rfl ?_) | refine gi_seq ?_ | refine gi_plain ?_))
    refine r_callX [] [] (FnR.x (find_ok l v hl)) rfl rfl rfl rfl rfl rfl Try.func45 rfl rfl rfl rfl rfl rfl rfl pFd ?_
    rintro r H1 S1 ⟨rfl, rfl, rfl⟩
    rw [← hx]
    (repeat (first | refine r_end ?_ | (refine r_op ?_; first | refine r_pure hT rfl rfl rfl rfl rfl rfl ?_ | refine r_store hT rfl rfl rfl rfl rfl rfl rfl rfl rfl rfl ?_ | refine r_alloc hT rfl rfl rfl rfl rfl rfl rfl rfl rfl ?_) | refine gi_seq ?_))
    refine gi_drawM [5, 7] [(0, .p), (2, .p), (1, .t), (3, .t), (4, .o), (5, .l), (6, .p), (7, .l)] [0, 1, 0, 0, 12, 18, 63, 127] [0, 1, 0, 0, 12, 18, 0, 96] hm rfl (by kernel_rfl) (fun w1 K => ?_)
    (repeat ((refine r_op ?_; first | refine r_pure hT rfl rfl rfl rfl rfl rfl ?_ | refine r_load hT rfl rfl rfl rfl rfl rfl rfl rfl rfl ?_)))
    refine r_call (from_R l v hw) rfl rfl rfl rfl rfl rfl rfl rfl Try.func46 rfl rfl rfl pEp ?_
    rintro r S1 ⟨rfl, rfl⟩
    skip
    refine r_append hT rfl rfl rfl rfl rfl rfl rfl rfl rfl rfl rfl rfl rfl rfl rfl rfl rfl ?_ ?_
    · simp only [List.length_cons, List.length_nil, List.length_map, maxLen]
      constructor
      · omega
      · show _ * 48 ≤ _
        omega
    (repeat (first | refine r_end ?_ | (refine r_op ?_; first | refine r_pure hT rfl rfl rfl rfl rfl rfl ?_ | refine r_store hT rfl rfl rfl rfl rfl rfl rfl rfl rfl rfl ?_) | refine gi_seq ?_))
    refine gi_pick [0, 1, 2, 3] [0, 1, 2, 3, 4] rfl rfl rfl rfl rfl ?_
    have nx : ∀ sb' sn' wl', sb' = B ++ sbF l v → sn' = N ++ snF l v → wl' = W ++ wlF l v → ∀ F1 H1 S1, SubF [(4, I (wr .i64 ((j : Int) + 1))), (3, .box 1 0), (2, .box 0 0), (0, fsL l)] F1 → SubH [hM nilA nilA nilA nilA nilA, hM (.sl 0) (.sl 1) (.sl 2) (.sl 3) (.sl 4)] H1 → SubS [eV vs, eE (E ++ fromL l v), eSb sb', eSn sn', eN wl'] S1 → GI _ _ F1 H1 S1 := fun sb' sn' wl' h1 h2 h3' F1 H1 S1 hF hH hS => by
      refine next (j + 1) F1 H1 S1 hjl (by omega) ?_ hH ?_
      · rw [wr_i64 (by omega) (by omega)] at hF
        simpa using hF
      · rw [f1, f2, f3, f4, ← h1, ← h2, ← h3']; exact hS
    have e1 := eE_ap E (fromL l v)
    (repeat (first | refine r_end ?_ | (refine r_op ?_; first | refine r_pure hT rfl rfl rfl rfl rfl rfl ?_ | refine r_load hT rfl rfl rfl rfl rfl rfl rfl rfl rfl ?_) | refine gi_plain ?_))
    refine gi_cond rfl (fun c1 => ?_) (fun c1 => ?_)
    · have g2 : sbF l v = [] := by unfold sbF; rw [c1]
      have g3 : snF l v = [⟨v, netF v.i x.bits, x.bits⟩] := by unfold snF; rw [c1, ← hx]
      have g4 : wlF l v = [] := by unfold wlF; rw [c1]
      (repeat (refine gi_seq ?_))
      refine gi_drawM [12, 14] [(0, .p), (3, .p), (5, .p), (8, .p), (1, .t), (2, .t), (4, .t), (6, .t), (9, .t), (7, .o), (10, .p), (11, .o), (12, .l), (13, .p), (14, .l)] [0, 1, 0, 0, 8, 0, 32, 80, 0, 256, 644, 1024, 2178, 8191, 16383] [0, 1, 0, 0, 8, 0, 32, 80, 0, 256, 644, 1024, 2050, 0, 12288] hm rfl (by kernel_rfl) (fun w1 K => ?_)
      (repeat ((refine r_op ?_; first | refine r_pure hT rfl rfl rfl rfl rfl rfl ?_ | refine r_load hT rfl rfl rfl rfl rfl rfl rfl rfl rfl ?_)))
      refine r_call (Net_ok v.i x.bits) rfl rfl rfl rfl rfl rfl rfl rfl Try.func27 rfl rfl rfl pI ?_
      rintro r S1 ⟨rfl, rfl⟩
      (repeat ((refine r_op ?_; first | refine r_pure hT rfl rfl rfl rfl rfl rfl ?_ | refine r_lit hT rfl rfl rfl rfl rfl rfl rfl rfl rfl rfl rfl rfl rfl ?_)))
      refine r_append hT rfl rfl rfl rfl rfl rfl rfl rfl rfl rfl rfl rfl rfl rfl rfl rfl rfl ?_ ?_
      · simp only [List.length_cons, List.length_nil, List.length_map, maxLen]
        constructor
        · omega
        · show _ * 32 ≤ _
          omega
      (repeat (first | refine r_end ?_ | (refine r_op ?_; first | refine r_pure hT rfl rfl rfl rfl rfl rfl ?_ | refine r_store hT rfl rfl rfl rfl rfl rfl rfl rfl rfl rfl ?_) | refine gi_plain ?_ | refine gi_exit rfl ?_))
      refine gi_pick [0, 1] [0, 1, 2, 3, 4] rfl rfl rfl rfl rfl ?_
      refine nx B (N ++ [⟨v, netF v.i x.bits, x.bits⟩]) W (by rw [g2, List.append_nil]) (by rw [g3]) (by rw [g4, List.append_nil]) _ _ _ ⟨rfl, rfl, rfl, rfl, trivial⟩ ⟨rfl, rfl, trivial⟩ ⟨rfl, e1, rfl, eSn_ap N [_], rfl, trivial⟩
    have g3 : snF l v = [] := by unfold snF; rw [c1]
    have g4 : wlF l v = wl1 l v := by unfold wlF; rw [c1]
    have g2 : sbF l v = x.lk.flatMap (stF v.i) := by unfold sbF; rw [c1, ← hx]
    have w1l := wl1_len l v
    apply gi_cut (σ := Unit) (fun _ => [(6, .box 3 0), (5, .box 2 0), (4, I j), (3, .box 1 0), (2, .box 0 0), (0, fsL l)]) (fun _ => [hM nilA nilA nilA nilA nilA, hM (.sl 0) (.sl 1) (.sl 2) (.sl 3) (.sl 4), hV v, hLs x]) (fun _ => [eV vs, eE (E ++ fromL l v), eSb B, eSn N, eN (W ++ wl1 l v)]) (fun _ => True) (fun _ => rfl)
    case first =>
      intro fin
      (repeat (first | refine r_end ?_ | (refine r_op ?_; first | refine r_pure hT rfl rfl rfl rfl rfl rfl ?_ | refine r_load hT rfl rfl rfl rfl rfl rfl rfl rfl rfl ?_) | refine gi_seq ?_ | refine gi_plain ?_ | refine gi_skip ?_))
      refine gi_cond rfl (fun c2 => ?_) (fun c2 => ?_)
      · have g5 : wl1 l v = [v.i] := by unfold wl1; rw [← hx, c2]
        (repeat (first | (refine r_op ?_; first | refine r_pure hT rfl rfl rfl rfl rfl rfl ?_ | refine r_load hT rfl rfl rfl rfl rfl rfl rfl rfl rfl ?_ | refine r_lit hT rfl rfl rfl rfl rfl rfl rfl rfl rfl rfl rfl rfl rfl ?_) | refine gi_plain ?_))
        refine r_append hT rfl rfl rfl rfl rfl rfl rfl rfl rfl rfl rfl rfl rfl rfl rfl rfl rfl ?_ ?_
        · simp only [List.length_cons, List.length_nil, List.length_map, maxLen]
          constructor
          · omega
          · show _ * 8 ≤ _
            omega
        (repeat (first | refine r_end ?_ | (refine r_op ?_; first | refine r_pure hT rfl rfl rfl rfl rfl rfl ?_ | refine r_store hT rfl rfl rfl rfl rfl rfl rfl rfl rfl rfl ?_) | refine gi_seq ?_))
        refine fin () _ _ _ trivial ⟨rfl, rfl, rfl, rfl, rfl, rfl, trivial⟩ ⟨rfl, rfl, rfl, rfl, trivial⟩ ⟨rfl, e1, rfl, rfl, ?_, trivial⟩
        rw [g5]
        exact eN_ap W [_]
      · have g5 : wl1 l v = [] := by unfold wl1; rw [← hx, c2]
        (repeat (first | refine gi_seq ?_ | refine gi_skip ?_))
        exact fin () _ _ _ trivial ⟨rfl, rfl, rfl, rfl, rfl, rfl, trivial⟩ ⟨rfl, rfl, rfl, rfl, trivial⟩ ⟨rfl, e1, rfl, rfl, by rw [g5, List.append_nil], trivial⟩
    case after =>
      intro _ _
      (repeat (first | refine r_end ?_ | (refine r_op ?_; refine r_pure hT rfl rfl rfl rfl rfl rfl ?_) | refine gi_plain ?_ | refine gi_block ?_))
      refine gi_loop (σ := Nat) (fun t => [(8, I t), (6, .box 3 0), (5, .box 2 0), (4, I j), (3, .box 1 0), (2, .box 0 0), (0, fsL l)]) (fun _ => [hM nilA nilA nilA nilA nilA, hM (.sl 0) (.sl 1) (.sl 2) (.sl 3) (.sl 4), hV v, hLs x]) (fun t => [eV vs, eE (E ++ fromL l v), eSb (B ++ (x.lk.take t).flatMap (stF v.i)), eSn N, eN (W ++ wl1 l v)]) (fun t => t ≤ x.lk.length) (fun t => x.lk.length - t) 0 (Nat.zero_le _) ⟨rfl, rfl, rfl, rfl, rfl, rfl, rfl, trivial⟩ ⟨rfl, rfl, rfl, rfl, trivial⟩ ⟨rfl, rfl, by rw [List.take_zero, List.flatMap_nil, List.append_nil], rfl, rfl, trivial⟩ (fun _ => rfl) (fun t ht next2 => ?_)
      have ht : t ≤ x.lk.length := ht
      (repeat (first | refine r_end ?_ | (refine r_op ?_; first | refine r_pure hT rfl rfl rfl rfl rfl rfl ?_ | refine r_load hT rfl rfl rfl rfl rfl rfl rfl rfl rfl ?_) | refine gi_seq ?_ | refine gi_plain ?_))
      refine gi_lt (q := ((x.lk.map Lk.row).length : Int)) rfl (fun h5 => ?_) (fun h5 => ?_)
      · rw [List.length_map] at h5
        have htl : t < x.lk.length := by omega
        obtain ⟨k, hk⟩ : ∃ k, x.lk[t]? = some k := ⟨_, List.getElem?_eq_getElem htl⟩
        have ft := flat_take (stF v.i) hk
        have bt := flat_len (stF_len v.i) (x.lk.take t)
        rw [List.length_take] at bt
        obtain ⟨D, hD⟩ : ∃ D, D = B ++ (x.lk.take t).flatMap (stF v.i) := ⟨_, rfl⟩
        have hDl : D.length ≤ 2001000 := by rw [hD, List.length_append]; omega
        rw [← hD]
        have nt : ∀ D', D' = D ++ stF v.i k → ∀ F1 H1 S1, SubF [(8, I (wr .i64 ((t : Int) + 1))), (6, .box 3 0), (5, .box 2 0), (4, I j), (3, .box 1 0), (2, .box 0 0), (0, fsL l)] F1 → SubH [hM nilA nilA nilA nilA nilA, hM (.sl 0) (.sl 1) (.sl 2) (.sl 3) (.sl 4), hV v, hLs x] H1 → SubS [eV vs, eE (E ++ fromL l v), eSb D', eSn N, eN (W ++ wl1 l v)] S1 → GI _ _ F1 H1 S1 := fun D' h F1 H1 S1 hF hH hS => by
          refine next2 (t + 1) F1 H1 S1 htl (by omega) ?_ hH ?_
          · rw [wr_i64 (by omega) (by omega)] at hF
            simpa using hF
          · rw [ft, ← List.append_assoc, ← hD, ← h]; exact hS
        (repeat (first | (refine r_op ?_; first | refine r_pure hT rfl rfl rfl rfl rfl rfl ?_ | refine r_load hT rfl rfl rfl rfl rfl rfl rfl rfl rfl ?_) | refine gi_seq ?_ | refine gi_plain ?_ | refine gi_skip ?_ | refine gi_block ?_))
        refine r_thaw 74 rfl ?_
        refine r_idx (row := k.row) hT rfl rfl rfl rfl rfl rfl rfl rfl rfl rfl rfl rfl (by omega) (by simp [hk]) ?_
        (repeat ((refine r_op ?_; first | refine r_pure hT rfl rfl rfl rfl rfl rfl ?_ | refine r_load hT rfl rfl rfl rfl rfl rfl rfl rfl rfl ?_)))
        refine r_call (Bits_ok k.d) rfl rfl rfl rfl rfl rfl rfl rfl Try.func47 rfl rfl rfl pI ?_
        rintro r S1 ⟨rfl, rfl⟩
        (repeat (first | refine r_end ?_ | (refine r_op ?_; first | refine r_pure hT rfl rfl rfl rfl rfl rfl ?_ | refine r_load hT rfl rfl rfl rfl rfl rfl rfl rfl rfl ?_) | refine gi_seq ?_ | refine gi_plain ?_))
        refine r_thaw 81 rfl ?_
        refine r_idx (row := k.row) hT rfl rfl rfl rfl rfl rfl rfl rfl rfl rfl rfl rfl (by omega) (by simp [hk]) ?_
        (repeat ((refine r_op ?_; first | refine r_pure hT rfl rfl rfl rfl rfl rfl ?_ | refine r_load hT rfl rfl rfl rfl rfl rfl rfl rfl rfl ?_)))
        refine r_case (d := 87) rfl (fun d1 => ?_) (fun d1 => ?_)
        · (repeat (first | refine r_end ?_ | (refine r_op ?_; refine r_pure hT rfl rfl rfl rfl rfl rfl ?_)))
          refine gi_cond rfl (fun d2 => ?_) (fun d2 => ?_)
          · have gs : stF v.i k = [⟨v.i, netF k.i (bitsF k.d), bitsF k.d, k.c⟩] := by unfold stF; rw [d1, d2]; rfl
            skip
            refine gi_drawM [21, 23] [(0, .p), (2, .p), (4, .p), (6, .p), (10, .p), (12, .p), (13, .p), (15, .p), (1, .t), (3, .t), (5, .t), (7, .p), (8, .p), (9, .t), (14, .t), (16, .p), (17, .p), (18, .t), (11, .o), (19, .p), (20, .o), (21, .l), (22, .p), (23, .l)] [0, 1, 0, 4, 0, 16, 0, 96, 128, 256, 0, 1536, 0, 0, 8192, 0, 49152, 65536, 131072, 268296, 524288, 1050626, 4194303, 8388607] [0, 1, 0, 4, 0, 16, 0, 96, 128, 256, 0, 1536, 0, 0, 8192, 0, 49152, 65536, 131072, 268296, 524288, 1048578, 0, 6291456] hm rfl (by kernel_rfl) (fun w1 K => ?_)
            (repeat ((refine r_op ?_; first | refine r_pure hT rfl rfl rfl rfl rfl rfl ?_ | refine r_load hT rfl rfl rfl rfl rfl rfl rfl rfl rfl ?_)))
            refine r_thaw 96 rfl ?_
            refine r_idx (row := k.row) hT rfl rfl rfl rfl rfl rfl rfl rfl rfl rfl rfl rfl (by omega) (by simp [hk]) ?_
            (repeat ((refine r_op ?_; first | refine r_pure hT rfl rfl rfl rfl rfl rfl ?_ | refine r_load hT rfl rfl rfl rfl rfl rfl rfl rfl rfl ?_)))
            refine r_thaw 105 rfl ?_
            refine r_idx (row := k.row) hT rfl rfl rfl rfl rfl rfl rfl rfl rfl rfl rfl rfl (by omega) (by simp [hk]) ?_
            (repeat ((refine r_op ?_; first | refine r_pure hT rfl rfl rfl rfl rfl rfl ?_ | refine r_load hT rfl rfl rfl rfl rfl rfl rfl rfl rfl ?_)))
            refine r_call (Net_ok k.i (bitsF k.d)) rfl rfl rfl rfl rfl rfl rfl rfl Try.func27 rfl rfl rfl pI ?_
            rintro r S1 ⟨rfl, rfl⟩
            (repeat ((refine r_op ?_; first | refine r_pure hT rfl rfl rfl rfl rfl rfl ?_ | refine r_lit hT rfl rfl rfl rfl rfl rfl rfl rfl rfl rfl rfl rfl rfl ?_)))
            refine r_append hT rfl rfl rfl rfl rfl rfl rfl rfl rfl rfl rfl rfl rfl rfl rfl rfl rfl ?_ ?_
            · simp only [List.length_cons, List.length_nil, List.length_map, maxLen]
              constructor
              · omega
              · show _ * 32 ≤ _
                omega
            (repeat (first | refine r_end ?_ | (refine r_op ?_; first | refine r_pure hT rfl rfl rfl rfl rfl rfl ?_ | refine r_store hT rfl rfl rfl rfl rfl rfl rfl rfl rfl rfl ?_) | refine gi_plain ?_ | refine gi_inBlock ?_))
            refine nt (D ++ [⟨v.i, netF k.i (bitsF k.d), bitsF k.d, k.c⟩]) (by rw [gs]) _ _ _ ⟨rfl, rfl, rfl, rfl, rfl, rfl, rfl, trivial⟩ ⟨rfl, rfl, rfl, rfl, trivial⟩ ⟨rfl, rfl, eSb_ap D [_], rfl, rfl, trivial⟩
          · have gs : stF v.i k = [] := by unfold stF; rw [d1, d2]; rfl
            (repeat (first | refine r_end ?_ | (refine r_op ?_; refine r_pure hT rfl rfl rfl rfl rfl rfl ?_) | refine gi_plain ?_ | refine gi_skip ?_ | refine gi_inBlock ?_))
            exact nt D (by rw [gs, List.append_nil]) _ _ _ ⟨rfl, rfl, rfl, rfl, rfl, rfl, rfl, trivial⟩ ⟨rfl, rfl, rfl, rfl, trivial⟩ ⟨rfl, rfl, rfl, rfl, rfl, trivial⟩
        · have gs : stF v.i k = [] := by unfold stF; rw [d1]; rfl
          (repeat (first | refine r_end ?_ | (refine r_op ?_; first | refine r_pure hT rfl rfl rfl rfl rfl rfl ?_ | refine r_off rfl rfl rfl rfl rfl ?_) | refine gi_plain ?_ | refine gi_skip ?_ | refine gi_inBlock ?_ | (refine gi_cnd ?_; first | refine gi_true rfl ?_ | refine gi_false rfl ?_)))
          exact nt D (by rw [gs, List.append_nil]) _ _ _ ⟨rfl, rfl, rfl, rfl, rfl, rfl, rfl, trivial⟩ ⟨rfl, rfl, rfl, rfl, trivial⟩ ⟨rfl, rfl, rfl, rfl, rfl, trivial⟩
      · rw [List.length_map] at h5
        have htl : t = x.lk.length := by omega
        subst htl
        rw [List.take_length, ← g2]
        (repeat (first | refine r_end ?_ | (refine r_op ?_; refine r_pure hT rfl rfl rfl rfl rfl rfl ?_) | refine gi_plain ?_ | refine gi_inBlock ?_ | refine gi_exit rfl ?_))
        refine gi_pick [0, 1] [0, 1, 2, 3, 4] rfl rfl rfl rfl rfl ?_
        exact nx _ N _ rfl (by rw [g3, List.append_nil]) (by rw [g4]) _ _ _ ⟨rfl, rfl, rfl, rfl, trivial⟩ ⟨rfl, rfl, trivial⟩ ⟨rfl, rfl, rfl, rfl, rfl, trivial⟩
  · rw [List.length_map] at h3
    have hjl : j = vs.length := by omega
    subst hjl
    rw [List.take_length, hvs]
    (repeat (first | refine r_end ?_ | (refine r_op ?_; first | refine r_load hT rfl rfl rfl rfl rfl rfl rfl rfl rfl ?_ | refine r_store hT rfl rfl rfl rfl rfl rfl rfl rfl rfl rfl ?_) | refine gi_seq ?_ | refine gi_plain ?_ | refine gi_exit rfl ?_))
    refine gi_retX hT Try.func15 rfl [] [0, 1, 2, 3, 4] rfl rfl rfl rfl rfl rfl rfl rfl ?_
    exact ⟨rfl, rfl, rfl⟩
end Go.Proofs.Ytmocggibcniggaa.Kt
