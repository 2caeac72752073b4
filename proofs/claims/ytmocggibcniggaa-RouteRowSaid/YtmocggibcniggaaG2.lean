/- Part of the proofs of this seat's statements: what the functions compute. No condition. -/
import Derived.Test.YtmocggibcniggaaG1
import Derived.Test.YtmocggibcniggaaK4
import Derived.Test.YtmocggibcniggaaK3
import Derived.Test.YtmocggibcniggaaRows
set_option linter.unusedSimpArgs false
set_option linter.unusedVariables false
namespace Go.Proofs.Ytmocggibcniggaa.Kt
open Go Kw Go.Proofs
attribute [local irreducible] Kw.GI Kw.GR Kw.FnR Kw.FnX
set_option maxHeartbeats 16000000
set_option maxRecDepth 100000
structure Mp where
  vs : List Vt
  es : List Eg
  sb : List Sb
  sn : List Sn
  wl : List Int
def stF (i : Int) (k : Lk) : List Sb := match eqB k.k 3 && leB 0 (bitsF k.d) with
  | true => [⟨i, netF k.i (bitsF k.d), bitsF k.d, k.c⟩]
  | false => []
def snF (l : List Ls) (v : Vt) : List Sn := match eqB v.k 2 with
  | true => [⟨v, netF v.i ((findL l v).getD zLs).bits, ((findL l v).getD zLs).bits⟩]
  | false => []
def wl1 (l : List Ls) (v : Vt) : List Int := match notB (eqB (Go.bits .and .i64 ((findL l v).getD zLs).fl 8) 0) with
  | true => [v.i]
  | false => []
def wlF (l : List Ls) (v : Vt) : List Int := match eqB v.k 2 with
  | true => []
  | false => wl1 l v
def sbF (l : List Ls) (v : Vt) : List Sb := match eqB v.k 2 with
  | true => []
  | false => ((findL l v).getD zLs).lk.flatMap (stF v.i)
def mapL (l : List Ls) : Mp := ⟨vertsL l, (vertsL l).flatMap (fromL l), (vertsL l).flatMap (sbF l), (vertsL l).flatMap (snF l), (vertsL l).flatMap (wlF l)⟩
theorem flat_len {α β : Type} {f : α → List β} {c : Nat} (h : ∀ x, (f x).length ≤ c) : ∀ (l : List α), (l.flatMap f).length ≤ c * l.length
  | [] => by simp
  | x :: l => by
    have := flat_len h l
    have := h x
    rw [List.flatMap_cons, List.length_append, List.length_cons, Nat.mul_add]
    omega
theorem stF_len (i : Int) (k : Lk) : (stF i k).length ≤ 1 := by unfold stF; split <;> simp
theorem snF_len (l : List Ls) (k : Vt) : (snF l k).length ≤ 1 := by unfold snF; split <;> simp
theorem wl1_len (l : List Ls) (k : Vt) : (wl1 l k).length ≤ 1 := by unfold wl1; split <;> simp
theorem wlF_len (l : List Ls) (k : Vt) : (wlF l k).length ≤ 1 := by
  have := wl1_len l k
  unfold wlF; split
  · simp
  · exact this
theorem sbF_len {l : List Ls} (h : Few l) (k : Vt) : (sbF l k).length ≤ 1000 := by
  have h1 := flat_len (stF_len k.i) ((findL l k).getD zLs).lk
  have := h.fl k
  unfold sbF; split
  · simp
  · omega
theorem verts_len (l : List Ls) : (vertsL l).length ≤ 2 * l.length := by
  have := vfold_len l []
  simp only [List.length_nil] at this
  unfold vertsL
  omega
abbrev avM : AV := .agg [.sl 0, .sl 1, .sl 2, .sl 3, .sl 4]
abbrev SM (m : Mp) : Sp := [eV m.vs, eE m.es, eSb m.sb, eSn m.sn, eN m.wl]
abbrev hM (a b c d e : AV) : Option (TypeId × List AV) := some (31, [a, b, c, d, e])
abbrev nilA : AV := .r (.v (.slice none 0 0))
theorem eE_ap (a b : List Eg) : eE (a ++ b) = some (⟨69, 6, a.map Eg.row ++ b.map Eg.row, false⟩ : SE) := by rw [eE, List.map_append]
theorem eSn_ap (a b : List Sn) : eSn (a ++ b) = some (⟨78, 4, a.map Sn.row ++ b.map Sn.row, false⟩ : SE) := by rw [eSn, List.map_append]
theorem eSb_ap (a b : List Sb) : eSb (a ++ b) = some (⟨103, 4, a.map Sb.row ++ b.map Sb.row, false⟩ : SE) := by rw [eSb, List.map_append]
theorem eN_ap (a b : List Int) : eN (a ++ b) = some (⟨3, 1, a.map nRow ++ b.map nRow, false⟩ : SE) := by rw [eN, List.map_append]
theorem pl_E (l : List Eg) : ∀ row ∈ l.map Eg.row, ∀ x ∈ row, ∃ v, x = RV.v v := by
  intro row hr x hx
  obtain ⟨a, _, rfl⟩ := List.mem_map.1 hr
  simp only [Eg.row, List.mem_cons, List.not_mem_nil, or_false] at hx
  rcases hx with rfl | rfl | rfl | rfl | rfl | rfl <;> exact ⟨_, rfl⟩
theorem pEp {l : List Eg} : ∀ r S1, (r = .sl 0 ∧ S1 = [eE l]) → plainA r = true ∧ PlainS S1 := by
  rintro r S1 ⟨rfl, rfl⟩
  refine ⟨rfl, fun e he s hs => ?_⟩
  rw [List.mem_singleton.1 he] at hs
  cases hs
  exact ⟨rfl, pl_E l⟩
theorem from_R (l : List Ls) (v : Vt) (hw : Few l) : FnR Try.prog 46 [fsL l, v.av] (fun r S => r = .sl 0 ∧ S = [eE (fromL l v)]) := fnR_of ((from_ok l v hw).mono (fun r H S h => ⟨h.2.1, h.1, h.2.2⟩))
theorem Map_ok (l : List Ls) (hw : Few l) : FnX Try.prog 15 [fsL l] [] [] (fun r H S => r = avM ∧ H = [] ∧ S = SM (mapL l)) := by
  have hl0 := hw.len
  have hl : l.length < 1000000 := by omega
  have hvl := verts_len l
  refine fnX_intro (T := TT) (n := 115) Try.func15 rfl rfl rfl (fun w X Z Y B => ?_)
  (repeat (first | refine r_end ?_ | (refine r_op ?_; first | refine r_pure hT rfl rfl rfl rfl rfl rfl ?_ | refine r_alloc hT rfl rfl rfl rfl rfl rfl rfl rfl rfl ?_) | refine gi_seq ?_ | refine gi_plain ?_))
  refine r_callX [] [] (verts_ok l (by omega)) rfl rfl rfl rfl rfl rfl Try.func44 rfl rfl rfl rfl rfl rfl rfl pV1 ?_
  rintro r H1 S1 ⟨rfl, rfl, rfl⟩
  (repeat (first | refine r_end ?_ | (refine r_op ?_; first | refine r_pure hT rfl rfl rfl rfl rfl rfl ?_ | refine r_store hT rfl rfl rfl rfl rfl rfl rfl rfl rfl rfl ?_ | refine r_alloc hT rfl rfl rfl rfl rfl rfl rfl rfl rfl ?_) | refine gi_seq ?_ | refine gi_plain ?_ | refine gi_block ?_))
  obtain ⟨vs, hvs⟩ : ∃ vs, vs = vertsL l := ⟨_, rfl⟩
  rw [← hvs] at hvl
  rw [← hvs]
  refine gi_adoptH (e := 69) (sz := 6) 1 1 rfl rfl ?_
  refine gi_adoptH (e := 103) (sz := 4) 1 2 rfl rfl ?_
  refine gi_adoptH (e := 78) (sz := 4) 1 3 rfl rfl ?_
  refine gi_adoptH (e := 3) (sz := 1) 1 4 rfl rfl ?_
  refine gi_loop (σ := Nat) (fun j => [(4, I j), (3, .box 1 0), (2, .box 0 0), (0, fsL l)]) (fun _ => [hM nilA nilA nilA nilA nilA, hM (.sl 0) (.sl 1) (.sl 2) (.sl 3) (.sl 4)]) (fun j => [eV vs, eE ((vs.take j).flatMap (fromL l)), eSb ((vs.take j).flatMap (sbF l)), eSn ((vs.take j).flatMap (snF l)), eN ((vs.take j).flatMap (wlF l))]) (fun j => j ≤ vs.length) (fun j => vs.length - j) 0 (Nat.zero_le _) ⟨rfl, rfl, rfl, rfl, trivial⟩ ⟨rfl, rfl, trivial⟩ ⟨rfl, rfl, rfl, rfl, rfl, trivial⟩ (fun _ => rfl) (fun j hj next => ?_)
  have hj : j ≤ vs.length := hj
  (repeat (first | refine r_end ?_ | (refine r_op ?_; first | refine r_pure hT rfl rfl rfl rfl rfl rfl ?_ | refine r_load hT rfl rfl rfl rfl rfl rfl rfl rfl rfl ?_) | refine gi_seq ?_ | refine gi_plain ?_))
  refine gi_lt (q := ((vs.map Vt.row).length : Int)) rfl (fun h3 => ?_) (fun h3 => ?_)
  · rw [List.length_map] at h3
    have hjl : j < vs.length := by omega
    obtain ⟨v, hv⟩ : ∃ v, vs[j]? = some v := ⟨_, List.getElem?_eq_getElem hjl⟩
    have f1 := flat_take (fromL l) hv
    have f2 := flat_take (sbF l) hv
    have f3 := flat_take (snF l) hv
    have f4 := flat_take (wlF l) hv
    have b1 := flat_len (fun v => from_len hw v) (vs.take j)
    have b2 := flat_len (fun v => sbF_len hw v) (vs.take j)
    have b3 := flat_len (fun v => snF_len l v) (vs.take j)
    have b4 := flat_len (fun v => wlF_len l v) (vs.take j)
    have btk : (vs.take j).length ≤ 2000 := by rw [List.length_take]; omega
    obtain ⟨E, hE⟩ : ∃ E, E = (vs.take j).flatMap (fromL l) := ⟨_, rfl⟩
    obtain ⟨B, hB⟩ : ∃ B, B = (vs.take j).flatMap (sbF l) := ⟨_, rfl⟩
    obtain ⟨N, hN⟩ : ∃ N, N = (vs.take j).flatMap (snF l) := ⟨_, rfl⟩
    obtain ⟨W, hW⟩ : ∃ W, W = (vs.take j).flatMap (wlF l) := ⟨_, rfl⟩
    rw [← hE] at f1 b1; rw [← hB] at f2 b2; rw [← hN] at f3 b3; rw [← hW] at f4 b4
    rw [← hE, ← hB, ← hN, ← hW]
    obtain ⟨x, hx⟩ : ∃ x, x = (findL l v).getD zLs := ⟨_, rfl⟩
    have hxk : x.lk.length ≤ 1000 := hx ▸ hw.fl v
    have hfr := from_len hw v
    (repeat (first | (refine r_op ?_; first | refine r_pure hT rfl rfl rfl rfl rfl rfl ?_ | refine r_load hT rfl rfl rfl rfl rfl rfl rfl rfl rfl ?_) | refine gi_seq ?_ | refine gi_plain ?_ | refine gi_skip ?_ | refine gi_block ?_))
    refine r_idxS hT rfl rfl rfl rfl rfl rfl rfl rfl rfl rfl rfl rfl rfl (by (try dsimp only) <;> (try simp only [wrL, List.length_map, List.length_append, List.length_take, List.length_drop, List.length_replicate, List.length_cons, List.length_nil]) <;> omega) (by (try dsimp only) <;> (try simp only [wrL, List.length_map, List.length_append, List.length_take, List.length_drop, List.length_replicate, List.length_cons, List.length_nil]) <;> omega) ?_
    skip
    refine r_loadS (row := v.row) hT rfl rfl rfl rfl rfl rfl rfl rfl (by show (vs.map Vt.row)[((j : Int)).toNat]? = _; rw [Int.toNat_natCast, List.getElem?_map, hv]; rfl) rfl rfl rfl ?_
    (repeat (first | refine r_end ?_ | (refine r_op ?_; first | refine r_pure hT rfl rfl rfl rfl rfl rfl ?_ | refine r_load hT rfl rfl rfl rfl rfl rfl rfl rfl rfl ?_ | refine r_store hT rfl rfl rfl rfl rfl rfl rfl rfl rfl rfl ?_ | refine r_alloc hT rfl rfl rfl rfl rfl rfl rfl rfl rfl ?_) | refine gi_seq ?_ | refine gi_plain ?_))
    refine r_callX [] [] (FnR.x (find_ok l v hl)) rfl rfl rfl rfl rfl rfl Try.func45 rfl rfl rfl rfl rfl rfl rfl pFd ?_
    rintro r H1 S1 ⟨rfl, rfl, rfl⟩
    rw [← hx]
    (repeat (first | refine r_end ?_ | (refine r_op ?_; first | refine r_pure hT rfl rfl rfl rfl rfl rfl ?_ | refine r_store hT rfl rfl rfl rfl rfl rfl rfl rfl rfl rfl ?_ | refine r_alloc hT rfl rfl rfl rfl rfl rfl rfl rfl rfl ?_) | refine gi_seq ?_))
    refine gi_drawM [5, 7] [(0, .p), (2, .p), (1, .t), (3, .t), (4, .o), (5, .l), (6, .p), (7, .l)] [0, 1, 0, 0, 12, 18, 63, 127] [0, 1, 0, 0, 12, 18, 0, 96] hm rfl (by kernel_rfl) (fun w1 K => ?_)
    (repeat ((refine r_op ?_; first | refine r_pure hT rfl rfl rfl rfl rfl rfl ?_ | refine r_load hT rfl rfl rfl rfl rfl rfl rfl rfl rfl ?_)))
    refine r_call (from_R l v hw) rfl rfl rfl rfl rfl rfl rfl rfl Try.func46 rfl rfl rfl pEp ?_
    rintro r S1 ⟨rfl, rfl⟩
    skip
    refine r_append hT rfl rfl rfl rfl rfl rfl rfl rfl rfl rfl rfl rfl rfl rfl rfl rfl rfl ?_ ?_
    · simp only [List.length_cons, List.length_nil, List.length_map, maxLen]
      constructor
      · omega
      · show _ * 48 ≤ _
        omega
    (repeat (first | refine r_end ?_ | (refine r_op ?_; first | refine r_pure hT rfl rfl rfl rfl rfl rfl ?_ | refine r_store hT rfl rfl rfl rfl rfl rfl rfl rfl rfl rfl ?_) | refine gi_seq ?_))
    refine gi_pick [0, 1, 2, 3] [0, 1, 2, 3, 4] rfl rfl rfl rfl rfl ?_
    have nx : ∀ sb' sn' wl', sb' = B ++ sbF l v → sn' = N ++ snF l v → wl' = W ++ wlF l v → ∀ F1 H1 S1, SubF [(4, I (wr .i64 ((j : Int) + 1))), (3, .box 1 0), (2, .box 0 0), (0, fsL l)] F1 → SubH [hM nilA nilA nilA nilA nilA, hM (.sl 0) (.sl 1) (.sl 2) (.sl 3) (.sl 4)] H1 → SubS [eV vs, eE (E ++ fromL l v), eSb sb', eSn sn', eN wl'] S1 → GI _ _ F1 H1 S1 := fun sb' sn' wl' h1 h2 h3' F1 H1 S1 hF hH hS => by
      refine next (j + 1) F1 H1 S1 hjl (by omega) ?_ hH ?_
      · rw [wr_i64 (by omega) (by omega)] at hF
        simpa using hF
      · rw [f1, f2, f3, f4, ← h1, ← h2, ← h3']; exact hS
    have e1 := eE_ap E (fromL l v)
    (repeat (first | refine r_end ?_ | (refine r_op ?_; first | refine r_pure hT rfl rfl rfl rfl rfl rfl ?_ | refine r_load hT rfl rfl rfl rfl rfl rfl rfl rfl rfl ?_) | refine gi_plain ?_))
    refine gi_cond rfl (fun c1 => ?_) (fun c1 => ?_)
    · have g2 : sbF l v = [] := by unfold sbF; rw [c1]
      have g3 : snF l v = [⟨v, netF v.i x.bits, x.bits⟩] := by unfold snF; rw [c1, ← hx]
      have g4 : wlF l v = [] := by unfold wlF; rw [c1]
      (repeat (refine gi_seq ?_))
      refine gi_drawM [12, 14] [(0, .p), (3, .p), (5, .p), (8, .p), (1, .t), (2, .t), (4, .t), (6, .t), (9, .t), (7, .o), (10, .p), (11, .o), (12, .l), (13, .p), (14, .l)] [0, 1, 0, 0, 8, 0, 32, 80, 0, 256, 644, 1024, 2178, 8191, 16383] [0, 1, 0, 0, 8, 0, 32, 80, 0, 256, 644, 1024, 2050, 0, 12288] hm rfl (by kernel_rfl) (fun w1 K => ?_)
      (repeat ((refine r_op ?_; first | refine r_pure hT rfl rfl rfl rfl rfl rfl ?_ | refine r_load hT rfl rfl rfl rfl rfl rfl rfl rfl rfl ?_)))
      refine r_call (Net_ok v.i x.bits) rfl rfl rfl rfl rfl rfl rfl rfl Try.func27 rfl rfl rfl pI ?_
      rintro r S1 ⟨rfl, rfl⟩
      (repeat ((refine r_op ?_; first | refine r_pure hT rfl rfl rfl rfl rfl rfl ?_ | refine r_lit hT rfl rfl rfl rfl rfl rfl rfl rfl rfl rfl rfl rfl rfl ?_)))
      refine r_append hT rfl rfl rfl rfl rfl rfl rfl rfl rfl rfl rfl rfl rfl rfl rfl rfl rfl ?_ ?_
      · simp only [List.length_cons, List.length_nil, List.length_map, maxLen]
        constructor
        · omega
        · show _ * 32 ≤ _
          omega
      (repeat (first | refine r_end ?_ | (refine r_op ?_; first | refine r_pure hT rfl rfl rfl rfl rfl rfl ?_ | refine r_store hT rfl rfl rfl rfl rfl rfl rfl rfl rfl rfl ?_) | refine gi_plain ?_ | refine gi_exit rfl ?_))
      refine gi_pick [0, 1] [0, 1, 2, 3, 4] rfl rfl rfl rfl rfl ?_
      refine nx B (N ++ [⟨v, netF v.i x.bits, x.bits⟩]) W (by rw [g2, List.append_nil]) (by rw [g3]) (by rw [g4, List.append_nil]) _ _ _ ⟨rfl, rfl, rfl, rfl, trivial⟩ ⟨rfl, rfl, trivial⟩ ⟨rfl, e1, rfl, eSn_ap N [_], rfl, trivial⟩
    have g3 : snF l v = [] := by unfold snF; rw [c1]
    have g4 : wlF l v = wl1 l v := by unfold wlF; rw [c1]
    have g2 : sbF l v = x.lk.flatMap (stF v.i) := by unfold sbF; rw [c1, ← hx]
    have w1l := wl1_len l v
    apply gi_cut (σ := Unit) (fun _ => [(6, .box 3 0), (5, .box 2 0), (4, I j), (3, .box 1 0), (2, .box 0 0), (0, fsL l)]) (fun _ => [hM nilA nilA nilA nilA nilA, hM (.sl 0) (.sl 1) (.sl 2) (.sl 3) (.sl 4), hV v, hLs x]) (fun _ => [eV vs, eE (E ++ fromL l v), eSb B, eSn N, eN (W ++ wl1 l v)]) (fun _ => True) (fun _ => rfl)
    case first =>
      intro fin
      (repeat (first | refine r_end ?_ | (refine r_op ?_; first | refine r_pure hT rfl rfl rfl rfl rfl rfl ?_ | refine r_load hT rfl rfl rfl rfl rfl rfl rfl rfl rfl ?_) | refine gi_seq ?_ | refine gi_plain ?_ | refine gi_skip ?_))
      refine gi_cond rfl (fun c2 => ?_) (fun c2 => ?_)
      · have g5 : wl1 l v = [v.i] := by unfold wl1; rw [← hx, c2]
        (repeat (first | (refine r_op ?_; first | refine r_pure hT rfl rfl rfl rfl rfl rfl ?_ | refine r_load hT rfl rfl rfl rfl rfl rfl rfl rfl rfl ?_ | refine r_lit hT rfl rfl rfl rfl rfl rfl rfl rfl rfl rfl rfl rfl rfl ?_) | refine gi_plain ?_))
        refine r_append hT rfl rfl rfl rfl rfl rfl rfl rfl rfl rfl rfl rfl rfl rfl rfl rfl rfl ?_ ?_
        · simp only [List.length_cons, List.length_nil, List.length_map, maxLen]
          constructor
          · omega
          · show _ * 8 ≤ _
            omega
        (repeat (first | refine r_end ?_ | (refine r_op ?_; first | refine r_pure hT rfl rfl rfl rfl rfl rfl ?_ | refine r_store hT rfl rfl rfl rfl rfl rfl rfl rfl rfl rfl ?_) | refine gi_seq ?_))
        refine fin () _ _ _ trivial ⟨rfl, rfl, rfl, rfl, rfl, rfl, trivial⟩ ⟨rfl, rfl, rfl, rfl, trivial⟩ ⟨rfl, e1, rfl, rfl, ?_, trivial⟩
        rw [g5]
        exact eN_ap W [_]
      · have g5 : wl1 l v = [] := by unfold wl1; rw [← hx, c2]
        (repeat (first | refine gi_seq ?_ | refine gi_skip ?_))
        exact fin () _ _ _ trivial ⟨rfl, rfl, rfl, rfl, rfl, rfl, trivial⟩ ⟨rfl, rfl, rfl, rfl, trivial⟩ ⟨rfl, e1, rfl, rfl, by rw [g5, List.append_nil], trivial⟩
    case after =>
      intro _ _
      (repeat (first | refine r_end ?_ | (refine r_op ?_; refine r_pure hT rfl rfl rfl rfl rfl rfl ?_) | refine gi_plain ?_ | refine gi_block ?_))
      refine gi_loop (σ := Nat) (fun t => [(8, I t), (6, .box 3 0), (5, .box 2 0), (4, I j), (3, .box 1 0), (2, .box 0 0), (0, fsL l)]) (fun _ => [hM nilA nilA nilA nilA nilA, hM (.sl 0) (.sl 1) (.sl 2) (.sl 3) (.sl 4), hV v, hLs x]) (fun t => [eV vs, eE (E ++ fromL l v), eSb (B ++ (x.lk.take t).flatMap (stF v.i)), eSn N, eN (W ++ wl1 l v)]) (fun t => t ≤ x.lk.length) (fun t => x.lk.length - t) 0 (Nat.zero_le _) ⟨rfl, rfl, rfl, rfl, rfl, rfl, rfl, trivial⟩ ⟨rfl, rfl, rfl, rfl, trivial⟩ ⟨rfl, rfl, by rw [List.take_zero, List.flatMap_nil, List.append_nil], rfl, rfl, trivial⟩ (fun _ => rfl) (fun t ht next2 => ?_)
      have ht : t ≤ x.lk.length := ht
      (repeat (first | refine r_end ?_ | (refine r_op ?_; first | refine r_pure hT rfl rfl rfl rfl rfl rfl ?_ | refine r_load hT rfl rfl rfl rfl rfl rfl rfl rfl rfl ?_) | refine gi_seq ?_ | refine gi_plain ?_))
      refine gi_lt (q := ((x.lk.map Lk.row).length : Int)) rfl (fun h5 => ?_) (fun h5 => ?_)
      · rw [List.length_map] at h5
        have htl : t < x.lk.length := by omega
        obtain ⟨k, hk⟩ : ∃ k, x.lk[t]? = some k := ⟨_, List.getElem?_eq_getElem htl⟩
        have ft := flat_take (stF v.i) hk
        have bt := flat_len (stF_len v.i) (x.lk.take t)
        rw [List.length_take] at bt
        obtain ⟨D, hD⟩ : ∃ D, D = B ++ (x.lk.take t).flatMap (stF v.i) := ⟨_, rfl⟩
        have hDl : D.length ≤ 2001000 := by rw [hD, List.length_append]; omega
        rw [← hD]
        have nt : ∀ D', D' = D ++ stF v.i k → ∀ F1 H1 S1, SubF [(8, I (wr .i64 ((t : Int) + 1))), (6, .box 3 0), (5, .box 2 0), (4, I j), (3, .box 1 0), (2, .box 0 0), (0, fsL l)] F1 → SubH [hM nilA nilA nilA nilA nilA, hM (.sl 0) (.sl 1) (.sl 2) (.sl 3) (.sl 4), hV v, hLs x] H1 → SubS [eV vs, eE (E ++ fromL l v), eSb D', eSn N, eN (W ++ wl1 l v)] S1 → GI _ _ F1 H1 S1 := fun D' h F1 H1 S1 hF hH hS => by
          refine next2 (t + 1) F1 H1 S1 htl (by omega) ?_ hH ?_
          · rw [wr_i64 (by omega) (by omega)] at hF
            simpa using hF
          · rw [ft, ← List.append_assoc, ← hD, ← h]; exact hS
        (repeat (first | (refine r_op ?_; first | refine r_pure hT rfl rfl rfl rfl rfl rfl ?_ | refine r_load hT rfl rfl rfl rfl rfl rfl rfl rfl rfl ?_) | refine gi_seq ?_ | refine gi_plain ?_ | refine gi_skip ?_ | refine gi_block ?_))
        refine r_thaw 74 rfl ?_
        refine r_idx (row := k.row) hT rfl rfl rfl rfl rfl rfl rfl rfl rfl rfl rfl rfl (by omega) (by simp [hk]) ?_
        (repeat ((refine r_op ?_; first | refine r_pure hT rfl rfl rfl rfl rfl rfl ?_ | refine r_load hT rfl rfl rfl rfl rfl rfl rfl rfl rfl ?_)))
        refine r_call (Bits_ok k.d) rfl rfl rfl rfl rfl rfl rfl rfl Try.func47 rfl rfl rfl pI ?_
        rintro r S1 ⟨rfl, rfl⟩
        (repeat (first | refine r_end ?_ | (refine r_op ?_; first | refine r_pure hT rfl rfl rfl rfl rfl rfl ?_ | refine r_load hT rfl rfl rfl rfl rfl rfl rfl rfl rfl ?_) | refine gi_seq ?_ | refine gi_plain ?_))
        refine r_thaw 81 rfl ?_
        refine r_idx (row := k.row) hT rfl rfl rfl rfl rfl rfl rfl rfl rfl rfl rfl rfl (by omega) (by simp [hk]) ?_
        (repeat ((refine r_op ?_; first | refine r_pure hT rfl rfl rfl rfl rfl rfl ?_ | refine r_load hT rfl rfl rfl rfl rfl rfl rfl rfl rfl ?_)))
        refine r_case (d := 87) rfl (fun d1 => ?_) (fun d1 => ?_)
        · (repeat (first | refine r_end ?_ | (refine r_op ?_; refine r_pure hT rfl rfl rfl rfl rfl rfl ?_)))
          refine gi_cond rfl (fun d2 => ?_) (fun d2 => ?_)
          · have gs : stF v.i k = [⟨v.i, netF k.i (bitsF k.d), bitsF k.d, k.c⟩] := by unfold stF; rw [d1, d2]; rfl
            skip
            refine gi_drawM [21, 23] [(0, .p), (2, .p), (4, .p), (6, .p), (10, .p), (12, .p), (13, .p), (15, .p), (1, .t), (3, .t), (5, .t), (7, .p), (8, .p), (9, .t), (14, .t), (16, .p), (17, .p), (18, .t), (11, .o), (19, .p), (20, .o), (21, .l), (22, .p), (23, .l)] [0, 1, 0, 4, 0, 16, 0, 96, 128, 256, 0, 1536, 0, 0, 8192, 0, 49152, 65536, 131072, 268296, 524288, 1050626, 4194303, 8388607] [0, 1, 0, 4, 0, 16, 0, 96, 128, 256, 0, 1536, 0, 0, 8192, 0, 49152, 65536, 131072, 268296, 524288, 1048578, 0, 6291456] hm rfl (by kernel_rfl) (fun w1 K => ?_)
            (repeat ((refine r_op ?_; first | refine r_pure hT rfl rfl rfl rfl rfl rfl ?_ | refine r_load hT rfl rfl rfl rfl rfl rfl rfl rfl rfl ?_)))
            refine r_thaw 96 rfl ?_
            refine r_idx (row := k.row) hT rfl rfl rfl rfl rfl rfl rfl rfl rfl rfl rfl rfl (by omega) (by simp [hk]) ?_
            (repeat ((refine r_op ?_; first | refine r_pure hT rfl rfl rfl rfl rfl rfl ?_ | refine r_load hT rfl rfl rfl rfl rfl rfl rfl rfl rfl ?_)))
            refine r_thaw 105 rfl ?_
            refine r_idx (row := k.row) hT rfl rfl rfl rfl rfl rfl rfl rfl rfl rfl rfl rfl (by omega) (by simp [hk]) ?_
            (repeat ((refine r_op ?_; first | refine r_pure hT rfl rfl rfl rfl rfl rfl ?_ | refine r_load hT rfl rfl rfl rfl rfl rfl rfl rfl rfl ?_)))
            refine r_call (Net_ok k.i (bitsF k.d)) rfl rfl rfl rfl rfl rfl rfl rfl Try.func27 rfl rfl rfl pI ?_
            rintro r S1 ⟨rfl, rfl⟩
            (repeat ((refine r_op ?_; first | refine r_pure hT rfl rfl rfl rfl rfl rfl ?_ | refine r_lit hT rfl rfl rfl rfl rfl rfl rfl rfl rfl rfl rfl rfl rfl ?_)))
            refine r_append hT rfl rfl rfl rfl rfl rfl rfl rfl rfl rfl rfl rfl rfl rfl rfl rfl rfl ?_ ?_
            · simp only [List.length_cons, List.length_nil, List.length_map, maxLen]
              constructor
              · omega
              · show _ * 32 ≤ _
                omega
            (repeat (first | refine r_end ?_ | (refine r_op ?_; first | refine r_pure hT rfl rfl rfl rfl rfl rfl ?_ | refine r_store hT rfl rfl rfl rfl rfl rfl rfl rfl rfl rfl ?_) | refine gi_plain ?_ | refine gi_inBlock ?_))
            refine nt (D ++ [⟨v.i, netF k.i (bitsF k.d), bitsF k.d, k.c⟩]) (by rw [gs]) _ _ _ ⟨rfl, rfl, rfl, rfl, rfl, rfl, rfl, trivial⟩ ⟨rfl, rfl, rfl, rfl, trivial⟩ ⟨rfl, rfl, eSb_ap D [_], rfl, rfl, trivial⟩
          · have gs : stF v.i k = [] := by unfold stF; rw [d1, d2]; rfl
            (repeat (first | refine r_end ?_ | (refine r_op ?_; refine r_pure hT rfl rfl rfl rfl rfl rfl ?_) | refine gi_plain ?_ | refine gi_skip ?_ | refine gi_inBlock ?_))
            exact nt D (by rw [gs, List.append_nil]) _ _ _ ⟨rfl, rfl, rfl, rfl, rfl, rfl, rfl, trivial⟩ ⟨rfl, rfl, rfl, rfl, trivial⟩ ⟨rfl, rfl, rfl, rfl, rfl, trivial⟩
        · have gs : stF v.i k = [] := by unfold stF; rw [d1]; rfl
          (repeat (first | refine r_end ?_ | (refine r_op ?_; first | refine r_pure hT rfl rfl rfl rfl rfl rfl ?_ | refine r_off rfl rfl rfl rfl rfl ?_) | refine gi_plain ?_ | refine gi_skip ?_ | refine gi_inBlock ?_ | (refine gi_cnd ?_; first | refine gi_true rfl ?_ | refine gi_false rfl ?_)))
          exact nt D (by rw [gs, List.append_nil]) _ _ _ ⟨rfl, rfl, rfl, rfl, rfl, rfl, rfl, trivial⟩ ⟨rfl, rfl, rfl, rfl, trivial⟩ ⟨rfl, rfl, rfl, rfl, rfl, trivial⟩
      · rw [List.length_map] at h5
        have htl : t = x.lk.length := by omega
        subst htl
        rw [List.take_length, ← g2]
        (repeat (first | refine r_end ?_ | (refine r_op ?_; refine r_pure hT rfl rfl rfl rfl rfl rfl ?_) | refine gi_plain ?_ | refine gi_inBlock ?_ | refine gi_exit rfl ?_))
        refine gi_pick [0, 1] [0, 1, 2, 3, 4] rfl rfl rfl rfl rfl ?_
        exact nx _ N _ rfl (by rw [g3, List.append_nil]) (by rw [g4]) _ _ _ ⟨rfl, rfl, rfl, rfl, trivial⟩ ⟨rfl, rfl, trivial⟩ ⟨rfl, rfl, rfl, rfl, rfl, trivial⟩
  · rw [List.length_map] at h3
    have hjl : j = vs.length := by omega
    subst hjl
    rw [List.take_length, hvs]
    (repeat (first | refine r_end ?_ | (refine r_op ?_; first | refine r_load hT rfl rfl rfl rfl rfl rfl rfl rfl rfl ?_ | refine r_store hT rfl rfl rfl rfl rfl rfl rfl rfl rfl rfl ?_) | refine gi_seq ?_ | refine gi_plain ?_ | refine gi_exit rfl ?_))
    refine gi_retX hT Try.func15 rfl [] [0, 1, 2, 3, 4] rfl rfl rfl rfl rfl rfl rfl rfl ?_
    exact ⟨rfl, rfl, rfl⟩
end Go.Proofs.Ytmocggibcniggaa.Kt
namespace Go.Proofs.Ytmocggibcniggaa.Kt
open Go Kw Go.Proofs
attribute [local irreducible] Kw.GI Kw.GR Kw.FnR Kw.FnX
set_option maxHeartbeats 8000000
set_option maxRecDepth 100000
def placeL : List Nd → Vt → Option Nat
  | [], _ => none
  | n :: l, v => if n.v = v then some 0 else (placeL l v).map (· + 1)
def placeI : Option Nat → Int
  | some i => i
  | none => -1
theorem placeL_at {v : Vt} : ∀ {t : List Nd} {j : Nat} {n : Nd}, (∀ i, i < j → ∀ m, t[i]? = some m → m.v ≠ v) → t[j]? = some n → n.v = v → placeL t v = some j
  | [], j, n, _, h, _ => by simp at h
  | x :: t, 0, n, _, h, hv => by
    simp at h; subst h
    unfold placeL; rw [if_pos hv]
  | x :: t, j + 1, n, hn, h, hv => by
    have := hn 0 (by omega) x rfl
    unfold placeL
    rw [if_neg this, placeL_at (t := t) (fun i hi m hm => hn (i + 1) (Nat.succ_lt_succ hi) m (by simpa using hm)) (by simpa using h) hv]
    rfl
theorem placeL_no {v : Vt} : ∀ {t : List Nd}, (∀ n ∈ t, n.v ≠ v) → placeL t v = none
  | [], _ => rfl
  | x :: t, h => by
    unfold placeL
    rw [if_neg (h x (List.mem_cons_self ..)), placeL_no (fun n hn => h n (List.mem_cons_of_mem _ hn))]
    rfl
theorem placeL_some {v : Vt} : ∀ {t : List Nd} {j : Nat}, placeL t v = some j → ∃ n, t[j]? = some n ∧ n.v = v
  | [], j, h => by cases h
  | x :: t, j, h => by
    unfold placeL at h
    split at h
    · rename_i hx
      cases h; exact ⟨x, rfl, hx⟩
    · cases ht : placeL t v with
      | none => rw [ht] at h; cases h
      | some i =>
        rw [ht] at h
        have : i + 1 = j := Option.some.inj h
        subst this
        obtain ⟨n, h1, h2⟩ := placeL_some ht
        exact ⟨n, by simpa using h1, h2⟩
theorem placeL_none {v : Vt} {t : List Nd} (h : placeL t v = none) : ∀ n ∈ t, n.v ≠ v := by
  induction t with
  | nil => intro n hn; cases hn
  | cons x t ih =>
    unfold placeL at h
    split at h
    · cases h
    · rename_i hx
      intro n hn
      cases ht : placeL t v with
      | none =>
        rcases List.mem_cons.1 hn with rfl | hn
        · exact hx
        · exact ih ht n hn
      | some i => rw [ht] at h; cases h
theorem placeL_lt {v : Vt} {t : List Nd} {j : Nat} (h : placeL t v = some j) : j < t.length := by
  obtain ⟨n, h1, _⟩ := placeL_some h
  exact (List.getElem?_eq_some_iff.1 h1).1
abbrev rsNd (l : List Nd) : AV := .r (.rs 5 (l.map Nd.row))
theorem Place_ok (t : List Nd) (v : Vt) (hl : t.length < 1000000) : FnR Try.prog 38 [rsNd t, v.av] (RI (placeI (placeL t v))) := by
  refine fnR_intro (T := TT) (n := 20) Try.func38 rfl rfl rfl (fun w Z => ?_)
  (repeat (first | refine r_end ?_ | (refine r_op ?_; first | refine r_pure hT rfl rfl rfl rfl rfl rfl ?_ | refine r_box rfl rfl rfl rfl rfl rfl rfl rfl rfl ?_) | refine gi_seq ?_ | refine gi_plain ?_ | refine gi_block ?_))
  refine gi_loop (σ := Nat) (fun j => [(5, I j), (3, .box 0 0), (0, rsNd t)]) (fun _ => [hV v]) (fun _ => []) (fun j => j ≤ t.length ∧ ∀ i, i < j → ∀ m, t[i]? = some m → m.v ≠ v) (fun j => t.length - j) 0 ⟨Nat.zero_le _, fun i h => absurd h (Nat.not_lt_zero _)⟩ ⟨rfl, rfl, rfl, trivial⟩ ⟨rfl, trivial⟩ trivial (fun _ => rfl) (fun j hj next => ?_)
  obtain ⟨hj, hn⟩ := hj
  (repeat (first | refine r_end ?_ | (refine r_op ?_; refine r_pure hT rfl rfl rfl rfl rfl rfl ?_) | refine gi_seq ?_ | refine gi_plain ?_))
  refine gi_lt (q := ((t.map Nd.row).length : Int)) rfl (fun h3 => ?_) (fun h3 => ?_)
  · rw [List.length_map] at h3
    have hjl : j < t.length := by omega
    obtain ⟨x, hx⟩ : ∃ x, t[j]? = some x := ⟨_, List.getElem?_eq_getElem hjl⟩
    (repeat (first | refine gi_seq ?_ | refine gi_skip ?_ | refine gi_block ?_))
    refine gi_drawM [] [(0, .p), (1, .p), (2, .p), (3, .p), (4, .t), (5, .t), (6, .p)] [0, 0, 3, 4, 8, 0, 48] [0, 0, 3, 4, 8, 0, 48] hm rfl (by kernel_rfl) (fun w1 K => ?_)
    (repeat ((refine r_op ?_; refine r_pure hT rfl rfl rfl rfl rfl rfl ?_)))
    refine r_idx (row := x.row) hT rfl rfl rfl rfl rfl rfl rfl rfl rfl rfl rfl rfl (by omega) (by simp [hx]) ?_
    (repeat ((refine r_op ?_; first | refine r_pure hT rfl rfl rfl rfl rfl rfl ?_ | refine r_load hT rfl rfl rfl rfl rfl rfl rfl rfl rfl ?_)))
    refine r_eqT _ rfl rfl rfl rfl rfl rfl rfl rfl rfl y_flat_Vt ?_
    (repeat (refine r_end ?_))
    refine gi_cond rfl (fun c4 => ?_) (fun c4 => ?_)
    · rw [veq_eq x.v v] at c4
      have hp := placeL_at hn hx (of_decide_eq_true c4)
      (repeat (first | refine r_end ?_ | (refine r_op ?_; refine r_pure hT rfl rfl rfl rfl rfl rfl ?_) | refine gi_seq ?_ | refine gi_plain ?_))
      refine gi_retW hT Try.func38 rfl rfl [] rfl rfl rfl rfl ?_
      rw [hp]
      exact ⟨rfl, rfl⟩
    · rw [veq_eq x.v v] at c4
      have hne := of_decide_eq_false c4
      (repeat (first | refine r_end ?_ | (refine r_op ?_; refine r_pure hT rfl rfl rfl rfl rfl rfl ?_) | refine gi_plain ?_ | refine gi_skip ?_ | refine gi_inBlock ?_))
      refine next (j + 1) _ _ _ ⟨hjl, fun i hi m hm => ?_⟩ (by omega) ⟨?_, rfl, rfl, trivial⟩ ⟨rfl, trivial⟩ trivial
      · rcases Nat.lt_succ_iff_lt_or_eq.1 hi with hi | rfl
        · exact hn i hi m hm
        · rw [hx] at hm; cases hm; exact hne
      · show some (I (wr .i64 ((j : Int) + 1))) = _
        rw [wr_i64 (by omega) (by omega)]
        simp
  · rw [List.length_map] at h3
    have hp : placeL t v = none := placeL_no (fun n hm => by
      obtain ⟨i, hi⟩ := List.mem_iff_getElem?.1 hm
      exact hn i (by have := (List.getElem?_eq_some_iff.1 hi).1; omega) n hi)
    (repeat (first | refine r_end ?_ | (refine r_op ?_; refine r_pure hT rfl rfl rfl rfl rfl rfl ?_) | refine gi_seq ?_ | refine gi_plain ?_ | refine gi_exit rfl ?_))
    refine gi_retW hT Try.func38 rfl rfl [] rfl rfl rfl rfl ?_
    rw [hp]
    exact ⟨rfl, rfl⟩
def firstB (a b : Vt) : Bool := match notB (eqB a.k b.k) with
  | true => eqB a.k 2
  | false => ltB a.i b.i
theorem first_ok (a b : Vt) : FnR Try.prog 96 [a.av, b.av] (RB (firstB a b)) := by
  refine fnR_intro (T := TT) (n := 18) Try.func96 rfl rfl rfl (fun w Z => ?_)
  (repeat (first | refine r_end ?_ | (refine r_op ?_; first | refine r_pure hT rfl rfl rfl rfl rfl rfl ?_ | refine r_load hT rfl rfl rfl rfl rfl rfl rfl rfl rfl ?_ | refine r_box rfl rfl rfl rfl rfl rfl rfl rfl rfl ?_) | refine gi_seq ?_ | refine gi_plain ?_))
  refine gi_cond rfl (fun c => ?_) (fun c => ?_)
  · (repeat (first | refine r_end ?_ | (refine r_op ?_; first | refine r_pure hT rfl rfl rfl rfl rfl rfl ?_ | refine r_load hT rfl rfl rfl rfl rfl rfl rfl rfl rfl ?_) | refine gi_seq ?_ | refine gi_plain ?_))
    refine gi_retW hT Try.func96 rfl rfl [] rfl rfl rfl rfl ?_
    exact ⟨by unfold firstB; rw [c], rfl⟩
  · (repeat (first | refine r_end ?_ | (refine r_op ?_; first | refine r_pure hT rfl rfl rfl rfl rfl rfl ?_ | refine r_load hT rfl rfl rfl rfl rfl rfl rfl rfl rfl ?_) | refine gi_seq ?_ | refine gi_plain ?_ | refine gi_skip ?_))
    refine gi_retW hT Try.func96 rfl rfl [] rfl rfl rfl rfl ?_
    exact ⟨by unfold firstB; rw [c], rfl⟩
def zNd : Nd := ⟨⟨0, 0⟩, 0, 0, 0⟩
def soonF (va vb : Vt) (a b : Nd) : Bool := match notB (eqB a.c b.c) with
  | true => ltB a.c b.c
  | false => match notB (decide (a.v = b.v)) with
    | true => firstB a.v b.v
    | false => match notB (eqB a.p b.p) with
      | true => firstB va vb
      | false => false
theorem sooner_ok (t : List Nd) (a b : Nd) (hl : t.length < 1000000) (na nb : Nd) (pa pb : Nat) (ha : a.p = pa) (hb : b.p = pb) (h1 : t[pa]? = some na) (h2 : t[pb]? = some nb) : FnR Try.prog 80 [rsNd t, a.av, b.av] (RB (soonF na.v nb.v a b)) := by
  have hal := (List.getElem?_eq_some_iff.1 h1).1
  have hbl := (List.getElem?_eq_some_iff.1 h2).1
  refine fnR_intro (T := TT) (n := 45) Try.func80 rfl rfl rfl (fun w Z => ?_)
  (repeat (first | refine r_end ?_ | (refine r_op ?_; first | refine r_pure hT rfl rfl rfl rfl rfl rfl ?_ | refine r_load hT rfl rfl rfl rfl rfl rfl rfl rfl rfl ?_ | refine r_box rfl rfl rfl rfl rfl rfl rfl rfl rfl ?_) | refine gi_seq ?_ | refine gi_plain ?_))
  refine gi_cond rfl (fun c => ?_) (fun c => ?_)
  · (repeat (first | refine r_end ?_ | (refine r_op ?_; first | refine r_pure hT rfl rfl rfl rfl rfl rfl ?_ | refine r_load hT rfl rfl rfl rfl rfl rfl rfl rfl rfl ?_) | refine gi_seq ?_ | refine gi_plain ?_))
    refine gi_retW hT Try.func80 rfl rfl [] rfl rfl rfl rfl ?_
    exact ⟨by unfold soonF; rw [c], rfl⟩
  (repeat (first | (refine r_op ?_; first | refine r_pure hT rfl rfl rfl rfl rfl rfl ?_ | refine r_load hT rfl rfl rfl rfl rfl rfl rfl rfl rfl ?_) | refine gi_seq ?_ | refine gi_plain ?_ | refine gi_skip ?_))
  refine r_neT _ rfl rfl rfl rfl rfl rfl rfl rfl rfl y_flat_Vt ?_
  (repeat (refine r_end ?_))
  refine gi_cond rfl (fun c2 => ?_) (fun c2 => ?_)
  · rw [veq_eq a.v b.v] at c2
    (repeat (first | (refine r_op ?_; first | refine r_pure hT rfl rfl rfl rfl rfl rfl ?_ | refine r_load hT rfl rfl rfl rfl rfl rfl rfl rfl rfl ?_) | refine gi_seq ?_ | refine gi_plain ?_))
    refine r_call (first_ok a.v b.v) rfl rfl rfl rfl rfl rfl rfl rfl Try.func96 rfl rfl rfl pB ?_
    rintro r S1 ⟨rfl, rfl⟩
    (repeat (first | refine r_end ?_ | (refine r_op ?_; refine r_pure hT rfl rfl rfl rfl rfl rfl ?_)))
    refine gi_retW hT Try.func80 rfl rfl [] rfl rfl rfl rfl ?_
    exact ⟨by unfold soonF; rw [c, c2], rfl⟩
  rw [veq_eq a.v b.v] at c2
  (repeat (first | refine r_end ?_ | (refine r_op ?_; first | refine r_pure hT rfl rfl rfl rfl rfl rfl ?_ | refine r_load hT rfl rfl rfl rfl rfl rfl rfl rfl rfl ?_) | refine gi_seq ?_ | refine gi_plain ?_ | refine gi_skip ?_))
  refine gi_cond rfl (fun c3 => ?_) (fun c3 => ?_)
  · (repeat (refine gi_seq ?_))
    refine gi_drawM [] [(0, .p), (1, .p), (6, .p), (7, .p), (2, .t), (3, .p), (4, .p), (5, .t), (8, .t), (9, .p), (10, .p), (11, .t), (12, .o), (13, .p)] [0, 0, 2, 5, 8, 16, 0, 0, 128, 320, 512, 1024, 2080, 8191] [0, 0, 2, 5, 8, 16, 0, 0, 128, 320, 512, 1024, 2080, 4096] hm rfl (by kernel_rfl) (fun w1 K => ?_)
    (repeat ((refine r_op ?_; first | refine r_pure hT rfl rfl rfl rfl rfl rfl ?_ | refine r_load hT rfl rfl rfl rfl rfl rfl rfl rfl rfl ?_)))
    refine r_turn (d := 34) (y := I (pa : Int)) rfl (by rw [← ha]) ?_
    refine r_idx (row := na.row) hT rfl rfl rfl rfl rfl rfl rfl rfl rfl rfl rfl rfl (by omega) (by simp [h1]) ?_
    (repeat ((refine r_op ?_; first | refine r_pure hT rfl rfl rfl rfl rfl rfl ?_ | refine r_load hT rfl rfl rfl rfl rfl rfl rfl rfl rfl ?_)))
    refine r_turn (d := 40) (y := I (pb : Int)) rfl (by rw [← hb]) ?_
    refine r_idx (row := nb.row) hT rfl rfl rfl rfl rfl rfl rfl rfl rfl rfl rfl rfl (by omega) (by simp [h2]) ?_
    (repeat ((refine r_op ?_; first | refine r_pure hT rfl rfl rfl rfl rfl rfl ?_ | refine r_load hT rfl rfl rfl rfl rfl rfl rfl rfl rfl ?_)))
    refine r_call (first_ok na.v nb.v) rfl rfl rfl rfl rfl rfl rfl rfl Try.func96 rfl rfl rfl pB ?_
    rintro r S1 ⟨rfl, rfl⟩
    (repeat (first | refine r_end ?_ | (refine r_op ?_; refine r_pure hT rfl rfl rfl rfl rfl rfl ?_)))
    refine gi_retW hT Try.func80 rfl rfl [] rfl rfl rfl rfl ?_
    exact ⟨by unfold soonF; rw [c, c2, c3], rfl⟩
  · (repeat (first | refine r_end ?_ | (refine r_op ?_; refine r_pure hT rfl rfl rfl rfl rfl rfl ?_) | refine gi_seq ?_ | refine gi_plain ?_ | refine gi_skip ?_))
    refine gi_retW hT Try.func80 rfl rfl [] rfl rfl rfl rfl ?_
    exact ⟨by unfold soonF; rw [c, c2, c3], rfl⟩
end Go.Proofs.Ytmocggibcniggaa.Kt
namespace Go.Proofs.Ytmocggibcniggaa.Kt
open Go Kw Go.Proofs
attribute [local irreducible] Kw.GI Kw.GR Kw.FnR Kw.FnX
set_option maxHeartbeats 8000000
set_option maxRecDepth 100000
def candL (t : List Nd) (e : Eg) : Option Nd := match placeL t e.f, placeL t e.t with
  | some p, none => some ⟨e.t, p, wr .i64 ((t.getD p zNd).c + e.c), e.d⟩
  | _, _ => none
def soon (t : List Nd) (a b : Nd) : Bool := soonF (t.getD a.p.toNat zNd).v (t.getD b.p.toNat zNd).v a b
def stepT (bt : List Nd → Nd → Nd → Bool) (t : List Nd) (m : Option Nd) (e : Eg) : Option Nd := match candL t e with
  | none => m
  | some n => match m with
    | none => some n
    | some b => match bt t n b with
      | true => some n
      | false => some b
def bestL (bt : List Nd → Nd → Nd → Bool) (t : List Nd) (es : List Eg) : Option Nd := es.foldl (stepT bt t) none
def treeN (bt : List Nd → Nd → Nd → Bool) (es : List Eg) : Nat → List Nd → List Nd
  | 0, t => t
  | k + 1, t => match bestL bt t es with
    | none => t
    | some n => treeN bt es k (t ++ [n])
theorem treeN_none {bt : List Nd → Nd → Nd → Bool} {es : List Eg} {k : Nat} {t : List Nd} (h : bestL bt t es = none) : treeN bt es (k + 1) t = t := by rw [treeN, h]
theorem treeN_some {bt : List Nd → Nd → Nd → Bool} {es : List Eg} {k : Nat} {t : List Nd} {n : Nd} (h : bestL bt t es = some n) : treeN bt es (k + 1) t = treeN bt es k (t ++ [n]) := by rw [treeN, h]
def rootN (v : Vt) : Nd := ⟨v, -1, 0, 0⟩
def refTree (m : Mp) (root : Vt) : List Nd := match m.vs.any (fun x => decide (x = root)) with
  | true => treeN soon m.es m.vs.length [rootN root]
  | false => []
def GoodN (t : List Nd) (n : Nd) : Prop := ∃ p : Nat, n.p = p ∧ p < t.length
theorem cand_good {t : List Nd} {e : Eg} {n : Nd} (h : candL t e = some n) : GoodN t n := by
  unfold candL at h
  split at h
  · rename_i p hp _
    cases h
    exact ⟨p, rfl, placeL_lt hp⟩
  · cases h
theorem step_good {bt : List Nd → Nd → Nd → Bool} {t : List Nd} {m : Option Nd} {e : Eg} (hm : ∀ b, m = some b → GoodN t b) : ∀ b, stepT bt t m e = some b → GoodN t b := by
  intro b h
  unfold stepT at h
  split at h
  · exact hm b h
  · rename_i n hn
    split at h
    · cases h; exact cand_good hn
    · rename_i b'
      split at h
      · cases h; exact cand_good hn
      · exact hm b h
theorem best_good {bt : List Nd → Nd → Nd → Bool} {t : List Nd} : ∀ {es : List Eg} {m : Option Nd}, (∀ b, m = some b → GoodN t b) → ∀ b, es.foldl (stepT bt t) m = some b → GoodN t b
  | [], m, hm, b, h => hm b h
  | e :: es, m, hm, b, h => best_good (es := es) (step_good (e := e) hm) b h
abbrev avMf (m : Mp) : AV := .agg [.r (.fs 2 (m.vs.map Vt.row)), .r (.fs 6 (m.es.map Eg.row)), .r (.fs 4 (m.sb.map Sb.row)), .r (.fs 4 (m.sn.map Sn.row)), .r (.fs 1 (m.wl.map nRow))]
abbrev hMf (m : Mp) : Option (TypeId × List AV) := some (31, [.r (.fs 2 (m.vs.map Vt.row)), .r (.fs 6 (m.es.map Eg.row)), .r (.fs 4 (m.sb.map Sb.row)), .r (.fs 4 (m.sn.map Sn.row)), .r (.fs 1 (m.wl.map nRow))])
abbrev hEg (e : Eg) : Option (TypeId × List AV) := some (69, [I e.f.k, I e.f.i, I e.t.k, I e.t.i, I e.c, I e.d])
abbrev hNd (n : Nd) : Option (TypeId × List AV) := some (58, [I n.v.k, I n.v.i, I n.p, I n.c, I n.d])
def noN : Nd := ⟨⟨0, 0⟩, -1, 0, 0⟩
theorem any_take {α : Type} (p : α → Bool) {l : List α} {j : Nat} {x : α} (h : l[j]? = some x) : (l.take (j + 1)).any p = ((l.take j).any p || p x) := by
  rw [take_snoc h, List.any_append]; simp
theorem eNd_ap (a b : List Nd) : eNd (a ++ b) = some (⟨58, 5, a.map Nd.row ++ b.map Nd.row, false⟩ : SE) := by rw [eNd, List.map_append]
theorem placeI_lt (o : Option Nat) : ltB (placeI o) 0 = !o.isSome := by
  rw [ltB_eq]
  cases o with
  | none => rfl
  | some i => exact decide_eq_false (by show ¬ ((i : Nat) : Int) < 0; omega)
theorem placeI_ge (o : Option Nat) : leB 0 (placeI o) = o.isSome := by
  rw [leB_eq]
  cases o with
  | none => rfl
  | some i => exact decide_eq_true (by show (0 : Int) ≤ ((i : Nat) : Int); omega)
theorem stLL_Nd : ∀ (l : List Nd), stLL (l.map Nd.row) = true
  | [] => rfl
  | c :: l => by
    show (stL (Nd.row c) && stLL (l.map Nd.row)) = true
    rw [stLL_Nd l]; rfl
theorem pNd {l : List Nd} : ∀ r H1 S1, RV1 (eNd l) r H1 S1 → stA r = true ∧ StH H1 ∧ StS S1 := by
  rintro r H S ⟨rfl, rfl, rfl⟩
  refine ⟨rfl, StH.nil, fun e he s hs => ?_⟩
  rw [List.mem_singleton.1 he] at hs
  cases hs
  exact stLL_Nd l
theorem rTree_ok (m : Mp) (root : Vt) (hv : m.vs.length ≤ 10000) (he : m.es.length ≤ 10000000) : FnX Try.prog 50 [avMf m, root.av] [] [] (RV1 (eNd (refTree m root))) := by
  refine fnX_intro (T := TT) (n := 99) Try.func50 rfl rfl rfl (fun w X Z Y B => ?_)
  (repeat (first | refine r_end ?_ | (refine r_op ?_; first | refine r_pure hT rfl rfl rfl rfl rfl rfl ?_ | refine r_box rfl rfl rfl rfl rfl rfl rfl rfl rfl ?_) | refine gi_seq ?_ | refine gi_plain ?_ | refine gi_block ?_))
  apply gi_cut (σ := Unit) (fun _ => [(5, Bo (m.vs.any (fun x => decide (x = root)))), (3, .box 1 0), (2, .box 0 0), (4, nilA)]) (fun _ => [hMf m, hV root]) (fun _ => []) (fun _ => True) (fun _ => rfl)
  case first =>
    intro fin
    refine gi_loop (σ := Nat) (fun j => [(6, I j), (5, Bo ((m.vs.take j).any (fun x => decide (x = root)))), (3, .box 1 0), (2, .box 0 0), (4, nilA)]) (fun _ => [hMf m, hV root]) (fun _ => []) (fun j => j ≤ m.vs.length) (fun j => m.vs.length - j) 0 (Nat.zero_le _) ⟨rfl, rfl, rfl, rfl, rfl, trivial⟩ ⟨rfl, rfl, trivial⟩ trivial (fun _ => rfl) (fun j hj next => ?_)
    have hj : j ≤ m.vs.length := hj
    (repeat (first | refine r_end ?_ | (refine r_op ?_; first | refine r_pure hT rfl rfl rfl rfl rfl rfl ?_ | refine r_load hT rfl rfl rfl rfl rfl rfl rfl rfl rfl ?_) | refine gi_seq ?_ | refine gi_plain ?_))
    refine gi_lt (q := ((m.vs.map Vt.row).length : Int)) rfl (fun h3 => ?_) (fun h3 => ?_)
    · rw [List.length_map] at h3
      have hjl : j < m.vs.length := by omega
      obtain ⟨x, hx⟩ : ∃ x, m.vs[j]? = some x := ⟨_, List.getElem?_eq_getElem hjl⟩
      have hat := any_take (fun x => decide (x = root)) hx
      have nx : ∀ b, b = ((m.vs.take j).any (fun x => decide (x = root)) || decide (x = root)) → ∀ F1 H1 S1, SubF [(6, I (wr .i64 ((j : Int) + 1))), (5, Bo b), (3, .box 1 0), (2, .box 0 0), (4, nilA)] F1 → SubH [hMf m, hV root] H1 → SubS [] S1 → GI _ _ F1 H1 S1 := fun b hb F1 H1 S1 hF hH hS => by
        refine next (j + 1) F1 H1 S1 hjl (by omega) ?_ hH hS
        rw [hat, ← hb]
        rw [wr_i64 (by omega) (by omega)] at hF
        simpa using hF
      (repeat (first | refine gi_seq ?_ | refine gi_skip ?_ | refine gi_block ?_))
      refine gi_drawM [] [(0, .p), (1, .p), (2, .p), (4, .p), (3, .t), (5, .p), (6, .t), (7, .t), (8, .p), (9, .p), (10, .p)] [0, 1, 2, 6, 2, 26, 34, 2, 194, 258, 1023] [0, 1, 2, 6, 2, 26, 34, 2, 194, 258, 513] hm rfl (by kernel_rfl) (fun w1 K => ?_)
      (repeat ((refine r_op ?_; refine r_pure hT rfl rfl rfl rfl rfl rfl ?_)))
      refine r_case (d := 21) rfl (fun c1 => ?_) (fun c1 => ?_)
      · (repeat (first | refine r_end ?_ | (refine r_op ?_; first | refine r_pure hT rfl rfl rfl rfl rfl rfl ?_ | refine r_off rfl rfl rfl rfl rfl ?_) | refine gi_plain ?_ | refine gi_inBlock ?_))
        exact nx true (by rw [c1]; rfl) _ _ _ ⟨rfl, rfl, rfl, rfl, rfl, trivial⟩ ⟨rfl, rfl, trivial⟩ trivial
      · (repeat ((refine r_op ?_; first | refine r_pure hT rfl rfl rfl rfl rfl rfl ?_ | refine r_load hT rfl rfl rfl rfl rfl rfl rfl rfl rfl ?_)))
        refine r_thaw 23 rfl ?_
        refine r_idx (row := x.row) hT rfl rfl rfl rfl rfl rfl rfl rfl rfl rfl rfl rfl (by omega) (by simp [hx]) ?_
        (repeat ((refine r_op ?_; refine r_load hT rfl rfl rfl rfl rfl rfl rfl rfl rfl ?_)))
        refine r_eqT _ rfl rfl rfl rfl rfl rfl rfl rfl rfl y_flat_Vt ?_
        (repeat (first | refine r_end ?_ | (refine r_op ?_; refine r_pure hT rfl rfl rfl rfl rfl rfl ?_) | refine gi_plain ?_ | refine gi_inBlock ?_))
        exact nx _ (by rw [c1, Bool.false_or]; exact veq_eq x root) _ _ _ ⟨rfl, rfl, rfl, rfl, rfl, trivial⟩ ⟨rfl, rfl, trivial⟩ trivial
    · rw [List.length_map] at h3
      have hjl : j = m.vs.length := by omega
      subst hjl
      rw [List.take_length]
      (repeat (first | refine gi_seq ?_ | refine gi_exit rfl ?_))
      exact fin () _ _ _ trivial ⟨rfl, rfl, rfl, rfl, trivial⟩ ⟨rfl, rfl, trivial⟩ trivial
  case after =>
    intro _ _
    (repeat (first | refine r_end ?_ | (refine r_op ?_; refine r_pure hT rfl rfl rfl rfl rfl rfl ?_) | refine gi_plain ?_))
    refine gi_cond rfl (fun c0 => ?_) (fun c0 => ?_)
    · rw [notB_eq, Bool.not_eq_true'] at c0
      have hrt : refTree m root = [] := by unfold refTree; rw [c0]
      (repeat (first | refine r_end ?_ | (refine r_op ?_; refine r_pure hT rfl rfl rfl rfl rfl rfl ?_) | refine gi_seq ?_ | refine gi_plain ?_))
      refine gi_adopt (e := 58) (sz := 5) 4 rfl ?_
      refine gi_retX hT Try.func50 rfl [] [0] rfl rfl rfl rfl rfl rfl rfl rfl ?_
      exact ⟨rfl, rfl, by rw [hrt]; rfl⟩
    rw [notB_eq, Bool.not_eq_false'] at c0
    have hrt : refTree m root = treeN soon m.es m.vs.length [rootN root] := by unfold refTree; rw [c0]
    (repeat (first | refine r_end ?_ | (refine r_op ?_; first | refine r_pure hT rfl rfl rfl rfl rfl rfl ?_ | refine r_load hT rfl rfl rfl rfl rfl rfl rfl rfl rfl ?_ | refine r_lit hT rfl rfl rfl rfl rfl rfl rfl rfl rfl rfl rfl rfl rfl ?_) | refine gi_seq ?_ | refine gi_plain ?_ | refine gi_skip ?_ | refine gi_block ?_))
    refine gi_loop (σ := Nat × List Nd) (fun _ => [(7, .sl 0), (3, .box 1 0), (2, .box 0 0)]) (fun _ => [hMf m, hV root]) (fun s => [eNd s.2]) (fun s => treeN soon m.es s.1 s.2 = refTree m root ∧ s.2.length + s.1 = m.vs.length + 1) (fun s => s.1) (m.vs.length, [rootN root]) ⟨hrt.symm, by simp only [List.length_cons, List.length_nil]; omega⟩ ⟨rfl, rfl, rfl, trivial⟩ ⟨rfl, rfl, trivial⟩ ⟨rfl, trivial⟩ (fun _ => rfl) (fun s hs next => ?_)
    obtain ⟨k, t⟩ := s
    obtain ⟨ht, hk⟩ := hs
    simp only at ht hk
    have htl : t.length < 1000000 := by omega
    (repeat (first | refine r_end ?_ | (refine r_op ?_; first | refine r_pure hT rfl rfl rfl rfl rfl rfl ?_ | refine r_load hT rfl rfl rfl rfl rfl rfl rfl rfl rfl ?_) | refine gi_seq ?_ | refine gi_plain ?_))
    refine gi_le (p := ((t.map Nd.row).length : Int)) (q := ((m.vs.map Vt.row).length : Int)) rfl (fun h3 => ?_) (fun h3 => ?_)
    · rw [List.length_map, List.length_map] at h3
      obtain ⟨k', rfl⟩ : ∃ k', k = k' + 1 := ⟨k - 1, by omega⟩
      (repeat (first | refine r_end ?_ | (refine r_op ?_; first | refine r_pure hT rfl rfl rfl rfl rfl rfl ?_ | refine r_store hT rfl rfl rfl rfl rfl rfl rfl rfl rfl rfl ?_ | refine r_alloc hT rfl rfl rfl rfl rfl rfl rfl rfl rfl ?_) | refine gi_seq ?_ | refine gi_plain ?_ | refine gi_skip ?_ | refine gi_block ?_))
      apply gi_cut (σ := Unit) (fun _ => [(8, .box 2 0), (7, .sl 0), (3, .box 1 0), (2, .box 0 0)]) (fun _ => [hMf m, hV root, hNd ((bestL soon t m.es).getD noN)]) (fun _ => [eNd t]) (fun _ => True) (fun _ => rfl)
      case first =>
        intro fin
        refine gi_loop (σ := Nat) (fun j => [(9, I j), (8, .box 2 0), (7, .sl 0), (3, .box 1 0), (2, .box 0 0)]) (fun j => [hMf m, hV root, hNd ((bestL soon t (m.es.take j)).getD noN)]) (fun _ => [eNd t]) (fun j => j ≤ m.es.length) (fun j => m.es.length - j) 0 (Nat.zero_le _) ⟨rfl, rfl, rfl, rfl, rfl, trivial⟩ ⟨rfl, rfl, rfl, trivial⟩ ⟨rfl, trivial⟩ (fun _ => rfl) (fun j hj next2 => ?_)
        have hj : j ≤ m.es.length := hj
        (repeat (first | refine r_end ?_ | (refine r_op ?_; first | refine r_pure hT rfl rfl rfl rfl rfl rfl ?_ | refine r_load hT rfl rfl rfl rfl rfl rfl rfl rfl rfl ?_) | refine gi_seq ?_ | refine gi_plain ?_))
        refine gi_lt (q := ((m.es.map Eg.row).length : Int)) rfl (fun h5 => ?_) (fun h5 => ?_)
        · rw [List.length_map] at h5
          have hjl : j < m.es.length := by omega
          obtain ⟨e, hee⟩ : ∃ e, m.es[j]? = some e := ⟨_, List.getElem?_eq_getElem hjl⟩
          have hft : bestL soon t (m.es.take (j + 1)) = stepT soon t (bestL soon t (m.es.take j)) e := fold_take (stepT soon t) none hee
          have hgood : ∀ b, bestL soon t (m.es.take j) = some b → GoodN t b := fun b h => best_good (es := m.es.take j) (fun b h => by cases h) b h
          obtain ⟨M, hM⟩ : ∃ M, M = bestL soon t (m.es.take j) := ⟨_, rfl⟩
          rw [← hM] at hft hgood
          rw [← hM]
          have nx : ∀ M', M' = stepT soon t M e → ∀ F1 H1 S1, SubF [(9, I (wr .i64 ((j : Int) + 1))), (8, .box 2 0), (7, .sl 0), (3, .box 1 0), (2, .box 0 0)] F1 → SubH [hMf m, hV root, hNd (M'.getD noN)] H1 → SubS [eNd t] S1 → GI _ _ F1 H1 S1 := fun M' h F1 H1 S1 hF hH hS => by
            refine next2 (j + 1) F1 H1 S1 hjl (by omega) ?_ (by rw [hft, ← h]; exact hH) hS
            rw [wr_i64 (by omega) (by omega)] at hF
            simpa using hF
          (repeat (first | (refine r_op ?_; first | refine r_pure hT rfl rfl rfl rfl rfl rfl ?_ | refine r_load hT rfl rfl rfl rfl rfl rfl rfl rfl rfl ?_) | refine gi_seq ?_ | refine gi_plain ?_ | refine gi_skip ?_ | refine gi_block ?_))
          refine r_thaw 50 rfl ?_
          refine r_idx (row := e.row) hT rfl rfl rfl rfl rfl rfl rfl rfl rfl rfl rfl rfl (by omega) (by simp [hee]) ?_
          (repeat (first | refine r_end ?_ | (refine r_op ?_; first | refine r_pure hT rfl rfl rfl rfl rfl rfl ?_ | refine r_load hT rfl rfl rfl rfl rfl rfl rfl rfl rfl ?_ | refine r_store hT rfl rfl rfl rfl rfl rfl rfl rfl rfl rfl ?_ | refine r_alloc hT rfl rfl rfl rfl rfl rfl rfl rfl rfl ?_) | refine gi_seq ?_ | refine gi_plain ?_))
          refine r_call (Place_ok t e.f htl) rfl rfl rfl rfl rfl rfl rfl rfl Try.func38 rfl rfl rfl pI ?_
          rintro r S1 ⟨rfl, rfl⟩
          (repeat (first | refine r_end ?_ | (refine r_op ?_; refine r_pure hT rfl rfl rfl rfl rfl rfl ?_) | refine gi_seq ?_ | refine gi_plain ?_))
          refine r_case (d := 60) rfl (fun c1 => ?_) (fun c1 => ?_)
          · rw [placeI_lt] at c1
            have hst : stepT soon t M e = M := by
              unfold stepT candL
              cases hp : placeL t e.f with
              | none => rfl
              | some p => rw [hp] at c1; cases c1
            (repeat (first | refine r_end ?_ | (refine r_op ?_; first | refine r_pure hT rfl rfl rfl rfl rfl rfl ?_ | refine r_off rfl rfl rfl rfl rfl ?_) | refine gi_plain ?_ | refine gi_exit rfl ?_ | (refine gi_cnd ?_; first | refine gi_true rfl ?_ | refine gi_false rfl ?_)))
            exact nx M hst.symm _ _ _ ⟨rfl, rfl, rfl, rfl, rfl, trivial⟩ ⟨rfl, rfl, rfl, trivial⟩ ⟨rfl, trivial⟩
          rw [placeI_lt] at c1
          obtain ⟨p, hp⟩ : ∃ p, placeL t e.f = some p := by
            cases hp : placeL t e.f with
            | none => rw [hp] at c1; cases c1
            | some p => exact ⟨p, rfl⟩
          (repeat ((refine r_op ?_; first | refine r_pure hT rfl rfl rfl rfl rfl rfl ?_ | refine r_load hT rfl rfl rfl rfl rfl rfl rfl rfl rfl ?_)))
          refine r_call (Place_ok t e.t htl) rfl rfl rfl rfl rfl rfl rfl rfl Try.func38 rfl rfl rfl pI ?_
          rintro r S1 ⟨rfl, rfl⟩
          (repeat (first | refine r_end ?_ | (refine r_op ?_; refine r_pure hT rfl rfl rfl rfl rfl rfl ?_)))
          refine gi_cond rfl (fun c2 => ?_) (fun c2 => ?_)
          · rw [placeI_ge] at c2
            have hst : stepT soon t M e = M := by
              unfold stepT candL
              rw [hp]
              cases hq : placeL t e.t with
              | none => rw [hq] at c2; cases c2
              | some p => rfl
            (repeat (first | refine r_end ?_ | (refine r_op ?_; refine r_pure hT rfl rfl rfl rfl rfl rfl ?_) | refine gi_plain ?_ | refine gi_exit rfl ?_))
            exact nx M hst.symm _ _ _ ⟨rfl, rfl, rfl, rfl, rfl, trivial⟩ ⟨rfl, rfl, rfl, trivial⟩ ⟨rfl, trivial⟩
          rw [placeI_ge] at c2
          have hq : placeL t e.t = none := by
            cases hq : placeL t e.t with
            | none => rfl
            | some p => rw [hq] at c2; cases c2
          have hpl := placeL_lt hp
          obtain ⟨np, hnp⟩ : ∃ np, t[p]? = some np := ⟨_, List.getElem?_eq_getElem hpl⟩
          have hgd : t.getD p zNd = np := by rw [List.getD_eq_getElem?_getD, hnp]; rfl
          obtain ⟨nn, hnn⟩ : ∃ nn : Nd, nn = ⟨e.t, p, wr .i64 (np.c + e.c), e.d⟩ := ⟨_, rfl⟩
          have hc : candL t e = some nn := by unfold candL; rw [hp, hq]; show some (Nd.mk e.t (p : Nat) (wr .i64 ((t.getD p zNd).c + e.c)) e.d) = _; rw [hgd, hnn]
          (repeat (first | refine gi_seq ?_ | refine gi_skip ?_))
          refine gi_drawM [15] [(0, .p), (2, .p), (3, .p), (4, .p), (5, .p), (6, .p), (8, .p), (11, .p), (1, .t), (7, .t), (9, .t), (10, .p), (12, .t), (13, .p), (14, .o), (15, .l)] [0, 1, 0, 0, 0, 24, 32, 64, 0, 256, 640, 0, 2048, 5126, 0, 32767] [0, 1, 0, 0, 0, 24, 32, 64, 0, 256, 640, 0, 2048, 5126, 0, 24576] hm rfl (by kernel_rfl) (fun w1 K => ?_)
          (repeat ((refine r_op ?_; refine r_pure hT rfl rfl rfl rfl rfl rfl ?_)))
          refine r_turn (d := 69) (y := I (p : Int)) rfl (by rw [hp]; rfl) ?_
          refine r_turn (d := 71) (y := I (p : Int)) rfl (by rw [hp]; rfl) ?_
          refine r_idxS hT rfl rfl rfl rfl rfl rfl rfl rfl rfl rfl rfl rfl rfl (by (try dsimp only) <;> (try simp only [wrL, List.length_map, List.length_append, List.length_take, List.length_drop, List.length_replicate, List.length_cons, List.length_nil]) <;> omega) (by (try dsimp only) <;> (try simp only [wrL, List.length_map, List.length_append, List.length_take, List.length_drop, List.length_replicate, List.length_cons, List.length_nil]) <;> omega) ?_
          (repeat ((refine r_op ?_; first | refine r_pure hT rfl rfl rfl rfl rfl rfl ?_ | refine r_load hT rfl rfl rfl rfl rfl rfl rfl rfl rfl ?_)))
          refine r_loadS (row := np.row) hT rfl rfl rfl rfl rfl rfl rfl rfl (by show (t.map Nd.row)[((p : Int)).toNat]? = _; rw [Int.toNat_natCast, List.getElem?_map, hnp]; rfl) rfl rfl rfl ?_
          (repeat (first | refine r_end ?_ | (refine r_op ?_; first | refine r_pure hT rfl rfl rfl rfl rfl rfl ?_ | refine r_load hT rfl rfl rfl rfl rfl rfl rfl rfl rfl ?_ | refine r_store hT rfl rfl rfl rfl rfl rfl rfl rfl rfl rfl ?_ | refine r_alloc hT rfl rfl rfl rfl rfl rfl rfl rfl rfl ?_) | refine gi_seq ?_ | refine gi_plain ?_))
          refine r_case (d := 84) rfl (fun c3 => ?_) (fun c3 => ?_)
          · have hMn : M = none := by
              cases hMb : M with
              | none => rfl
              | some b =>
                rw [hMb, ltB_eq] at c3
                obtain ⟨pb, hb, _⟩ := hgood b hMb
                have := of_decide_eq_true c3
                have : b.p < 0 := this
                omega
            have hst : stepT soon t M e = some nn := by unfold stepT; rw [hc, hMn]
            (repeat (first | refine r_end ?_ | (refine r_op ?_; first | refine r_pure hT rfl rfl rfl rfl rfl rfl ?_ | refine r_load hT rfl rfl rfl rfl rfl rfl rfl rfl rfl ?_ | refine r_store hT rfl rfl rfl rfl rfl rfl rfl rfl rfl rfl ?_ | refine r_off rfl rfl rfl rfl rfl ?_) | refine gi_plain ?_ | refine gi_inBlock ?_ | (refine gi_cnd ?_; first | refine gi_true rfl ?_ | refine gi_false rfl ?_)))
            refine nx (some nn) hst.symm _ _ _ ⟨rfl, rfl, rfl, rfl, rfl, trivial⟩ ⟨rfl, rfl, ?_, trivial⟩ ⟨rfl, trivial⟩
            rw [hnn]; rfl
          · obtain ⟨b, hMb⟩ : ∃ b, M = some b := by
              cases hMb : M with
              | none => rw [hMb, ltB_eq] at c3; have := of_decide_eq_false c3; exact absurd (show ((-1 : Int) < 0) by decide) this
              | some b => exact ⟨b, rfl⟩
            obtain ⟨pb, hb, hbl⟩ := hgood b hMb
            obtain ⟨nb, hnb⟩ : ∃ nb, t[pb]? = some nb := ⟨_, List.getElem?_eq_getElem hbl⟩
            have hsn : soon t nn b = soonF np.v nb.v nn b := by
              unfold soon
              rw [hb, show nn.p = (p : Nat) by rw [hnn], Int.toNat_natCast, Int.toNat_natCast, hgd, List.getD_eq_getElem?_getD, hnb]; rfl
            have hst : stepT soon t M e = match soonF np.v nb.v nn b with
              | true => some nn
              | false => some b := by unfold stepT; rw [hc, hMb, ← hsn]
            subst hMb
            subst hnn
            (repeat ((refine r_op ?_; first | refine r_pure hT rfl rfl rfl rfl rfl rfl ?_ | refine r_load hT rfl rfl rfl rfl rfl rfl rfl rfl rfl ?_)))
            refine r_call (sooner_ok t ⟨e.t, p, wr .i64 (np.c + e.c), e.d⟩ b htl np nb p pb rfl hb hnp hnb) rfl rfl rfl rfl rfl rfl rfl rfl Try.func80 rfl rfl rfl pB ?_
            rintro r S1 ⟨rfl, rfl⟩
            (repeat (first | refine r_end ?_ | (refine r_op ?_; refine r_pure hT rfl rfl rfl rfl rfl rfl ?_)))
            refine gi_cond rfl (fun c4 => ?_) (fun c4 => ?_)
            · rw [c4] at hst
              (repeat (first | refine r_end ?_ | (refine r_op ?_; first | refine r_pure hT rfl rfl rfl rfl rfl rfl ?_ | refine r_load hT rfl rfl rfl rfl rfl rfl rfl rfl rfl ?_ | refine r_store hT rfl rfl rfl rfl rfl rfl rfl rfl rfl rfl ?_) | refine gi_plain ?_ | refine gi_inBlock ?_))
              exact nx (some _) hst.symm _ _ _ ⟨rfl, rfl, rfl, rfl, rfl, trivial⟩ ⟨rfl, rfl, rfl, trivial⟩ ⟨rfl, trivial⟩
            · rw [c4] at hst
              (repeat (first | refine r_end ?_ | (refine r_op ?_; refine r_pure hT rfl rfl rfl rfl rfl rfl ?_) | refine gi_plain ?_ | refine gi_skip ?_ | refine gi_inBlock ?_))
              exact nx (some b) hst.symm _ _ _ ⟨rfl, rfl, rfl, rfl, rfl, trivial⟩ ⟨rfl, rfl, rfl, trivial⟩ ⟨rfl, trivial⟩
        · rw [List.length_map] at h5
          have hjl : j = m.es.length := by omega
          subst hjl
          rw [List.take_length]
          (repeat (first | refine gi_seq ?_ | refine gi_exit rfl ?_))
          exact fin () _ _ _ trivial ⟨rfl, rfl, rfl, rfl, trivial⟩ ⟨rfl, rfl, rfl, trivial⟩ ⟨rfl, trivial⟩
      case after =>
        intro _ _
        have hgood : ∀ b, bestL soon t m.es = some b → GoodN t b := fun b h => best_good (es := m.es) (fun b h => by cases h) b h
        obtain ⟨M, hM⟩ : ∃ M, M = bestL soon t m.es := ⟨_, rfl⟩
        rw [← hM] at hgood ⊢
        (repeat (first | refine r_end ?_ | (refine r_op ?_; first | refine r_pure hT rfl rfl rfl rfl rfl rfl ?_ | refine r_load hT rfl rfl rfl rfl rfl rfl rfl rfl rfl ?_) | refine gi_plain ?_))
        refine gi_cond rfl (fun c5 => ?_) (fun c5 => ?_)
        · have hMn : M = none := by
            cases hMb : M with
            | none => rfl
            | some b =>
              rw [hMb, ltB_eq] at c5
              obtain ⟨pb, hb, _⟩ := hgood b hMb
              have := of_decide_eq_true c5
              have : b.p < 0 := this
              omega
          have hstep : refTree m root = t := by rw [← ht, treeN_none (hM.symm.trans hMn)]
          (repeat (first | refine r_end ?_ | (refine r_op ?_; refine r_pure hT rfl rfl rfl rfl rfl rfl ?_) | refine gi_seq ?_ | refine gi_plain ?_ | refine gi_exit rfl ?_))
          refine gi_retX hT Try.func50 rfl [] [0] rfl rfl rfl rfl rfl rfl rfl rfl ?_
          exact ⟨rfl, rfl, by rw [hstep]⟩
        · obtain ⟨b, hMb⟩ : ∃ b, M = some b := by
            cases hMb : M with
            | none => rw [hMb, ltB_eq] at c5; have := of_decide_eq_false c5; exact absurd (show ((-1 : Int) < 0) by decide) this
            | some b => exact ⟨b, rfl⟩
          have hstep : refTree m root = treeN soon m.es k' (t ++ [b]) := by rw [← ht, treeN_some (hM.symm.trans hMb)]
          subst hMb
          (repeat (first | (refine r_op ?_; first | refine r_pure hT rfl rfl rfl rfl rfl rfl ?_ | refine r_load hT rfl rfl rfl rfl rfl rfl rfl rfl rfl ?_ | refine r_lit hT rfl rfl rfl rfl rfl rfl rfl rfl rfl rfl rfl rfl rfl ?_) | refine gi_plain ?_ | refine gi_skip ?_))
          refine r_append hT rfl rfl rfl rfl rfl rfl rfl rfl rfl rfl rfl rfl rfl rfl rfl rfl rfl ?_ ?_
          · simp only [List.length_cons, List.length_nil, List.length_map, maxLen]
            constructor
            · omega
            · show _ * 40 ≤ _
              omega
          (repeat (first | refine r_end ?_ | (refine r_op ?_; refine r_pure hT rfl rfl rfl rfl rfl rfl ?_) | refine gi_inBlock ?_))
          refine gi_pick [0, 1] [0] rfl rfl rfl rfl rfl ?_
          exact next (k', t ++ [b]) _ _ _ ⟨hstep.symm, by simp only [List.length_append, List.length_cons, List.length_nil]; omega⟩ (by simp only; omega) ⟨rfl, rfl, rfl, trivial⟩ ⟨rfl, rfl, trivial⟩ ⟨eNd_ap t [b], trivial⟩
    · rw [List.length_map, List.length_map] at h3
      have hk0 : k = 0 := by omega
      subst hk0
      have hstep : refTree m root = t := ht.symm
      (repeat (first | refine r_end ?_ | (refine r_op ?_; refine r_pure hT rfl rfl rfl rfl rfl rfl ?_) | refine gi_seq ?_ | refine gi_plain ?_ | refine gi_exit rfl ?_))
      refine gi_retX hT Try.func50 rfl [] [0] rfl rfl rfl rfl rfl rfl rfl rfl ?_
      exact ⟨rfl, rfl, by rw [hstep]⟩
end Go.Proofs.Ytmocggibcniggaa.Kt
namespace Go.Proofs.Ytmocggibcniggaa.Kt
open Go Kw Go.Proofs
attribute [local irreducible] Kw.GI Kw.GR Kw.FnR Kw.FnX
set_option maxHeartbeats 8000000
set_option maxRecDepth 100000
theorem IndexV_ok (l : List Vt) (v : Vt) (hl : l.length < 1000000) : FnR Try.prog 83 [rsV l, v.av] (fun r S => (∃ n : Int, r = I n ∧ leB 0 n = l.any (fun x => decide (x = v))) ∧ S = []) := by
  refine fnR_intro (T := TT) (n := 19) Try.func83 rfl rfl rfl (fun w Z => ?_)
  (repeat (first | refine r_end ?_ | (refine r_op ?_; first | refine r_pure hT rfl rfl rfl rfl rfl rfl ?_ | refine r_box rfl rfl rfl rfl rfl rfl rfl rfl rfl ?_) | refine gi_seq ?_ | refine gi_plain ?_ | refine gi_block ?_))
  refine gi_loop (σ := Nat) (fun j => [(8, I j), (7, I l.length), (3, .box 0 0), (0, rsV l)]) (fun _ => [hV v]) (fun _ => []) (fun j => j ≤ l.length ∧ (l.take j).any (fun x => decide (x = v)) = false) (fun j => l.length - j) 0 ⟨Nat.zero_le _, rfl⟩ ⟨rfl, by show some (I ((l.map Vt.row).length : Nat)) = _; rw [List.length_map], rfl, rfl, trivial⟩ ⟨rfl, trivial⟩ trivial (fun _ => rfl) (fun j hj next => ?_)
  obtain ⟨hj, hn⟩ := hj
  (repeat (first | refine r_end ?_ | (refine r_op ?_; refine r_pure hT rfl rfl rfl rfl rfl rfl ?_) | refine gi_seq ?_ | refine gi_plain ?_))
  refine gi_lt rfl (fun h3 => ?_) (fun h3 => ?_)
  · have hjl : j < l.length := by omega
    obtain ⟨x, hx⟩ : ∃ x, l[j]? = some x := ⟨_, List.getElem?_eq_getElem hjl⟩
    have hat := any_take (fun x => decide (x = v)) hx
    rw [hn, Bool.false_or] at hat
    (repeat (first | refine r_end ?_ | (refine r_op ?_; refine r_pure hT rfl rfl rfl rfl rfl rfl ?_) | refine gi_seq ?_ | refine gi_plain_ne 4 rfl ?_ | refine gi_skip ?_ | refine gi_block ?_))
    refine gi_drawM [] [(1, .p), (2, .p), (3, .p), (0, .t), (4, .t), (5, .p)] [0, 0, 0, 6, 8, 17] [0, 0, 0, 6, 8, 17] hm rfl (by kernel_rfl) (fun w1 K => ?_)
    (repeat ((refine r_op ?_; refine r_pure hT rfl rfl rfl rfl rfl rfl ?_)))
    refine r_idx (row := x.row) hT rfl rfl rfl rfl rfl rfl rfl rfl rfl rfl rfl rfl (by omega) (by simp [hx]) ?_
    (repeat ((refine r_op ?_; refine r_load hT rfl rfl rfl rfl rfl rfl rfl rfl rfl ?_)))
    refine r_eqT _ rfl rfl rfl rfl rfl rfl rfl rfl rfl y_flat_Vt ?_
    (repeat (refine r_end ?_))
    refine gi_cond rfl (fun c4 => ?_) (fun c4 => ?_)
    · rw [veq_eq v x] at c4
      have hvx := of_decide_eq_true c4
      (repeat (first | refine r_end ?_ | (refine r_op ?_; refine r_pure hT rfl rfl rfl rfl rfl rfl ?_) | refine gi_seq ?_ | refine gi_plain ?_))
      refine gi_retW hT Try.func83 rfl rfl [] rfl rfl rfl rfl ?_
      refine ⟨⟨j, rfl, ?_⟩, rfl⟩
      have : l.any (fun x => decide (x = v)) = true := List.any_eq_true.2 ⟨x, List.mem_of_getElem? hx, decide_eq_true hvx.symm⟩
      rw [this, leB_eq]
      exact decide_eq_true (by omega)
    · rw [veq_eq v x] at c4
      have hvx := of_decide_eq_false c4
      (repeat (first | refine r_end ?_ | (refine r_op ?_; refine r_pure hT rfl rfl rfl rfl rfl rfl ?_) | refine gi_plain ?_ | refine gi_skip ?_ | refine gi_inBlock ?_))
      refine next (j + 1) _ _ _ ⟨hjl, by rw [hat]; exact decide_eq_false (fun e => hvx e.symm)⟩ (by omega) ⟨?_, rfl, rfl, rfl, trivial⟩ ⟨rfl, trivial⟩ trivial
      show some (I (wr .i64 ((j : Int) + 1))) = _
      rw [wr_i64 (by omega) (by omega)]
      simp
  · have hjl : j = l.length := by omega
    subst hjl
    rw [List.take_length] at hn
    (repeat (first | refine r_end ?_ | (refine r_op ?_; refine r_pure hT rfl rfl rfl rfl rfl rfl ?_) | refine gi_seq ?_ | refine gi_plain ?_ | refine gi_exit rfl ?_))
    refine gi_retW hT Try.func83 rfl rfl [] rfl rfl rfl rfl ?_
    refine ⟨⟨-1, rfl, ?_⟩, rfl⟩
    rw [hn, leB_eq]; rfl
theorem pIx {b : Bool} : ∀ r S1, ((∃ n : Int, r = I n ∧ leB 0 n = b) ∧ S1 = []) → plainA r = true ∧ PlainS S1 := by
  rintro r S1 ⟨⟨n, rfl, _⟩, rfl⟩
  exact ⟨rfl, PlainS.nil⟩
theorem ContainsV_ok (l : List Vt) (v : Vt) (hl : l.length < 1000000) : FnR Try.prog 55 [rsV l, v.av] (RB (l.any (fun x => decide (x = v)))) := by
  refine fnR_intro (T := TT) (n := 9) Try.func55 rfl rfl rfl (fun w Z => ?_)
  (repeat (first | refine r_end ?_ | (refine r_op ?_; first | refine r_pure hT rfl rfl rfl rfl rfl rfl ?_ | refine r_load hT rfl rfl rfl rfl rfl rfl rfl rfl rfl ?_ | refine r_box rfl rfl rfl rfl rfl rfl rfl rfl rfl ?_) | refine gi_seq ?_ | refine gi_plain ?_))
  refine r_call (IndexV_ok l v hl) rfl rfl rfl rfl rfl rfl rfl rfl Try.func83 rfl rfl rfl pIx ?_
  rintro r S1 ⟨⟨n, rfl, hn⟩, rfl⟩
  (repeat (first | refine r_end ?_ | (refine r_op ?_; refine r_pure hT rfl rfl rfl rfl rfl rfl ?_)))
  refine gi_retW hT Try.func55 rfl rfl [] rfl rfl rfl rfl ?_
  exact ⟨by rw [← hn], rfl⟩
def aheadI (a b : Vt) : Int := orL [wr .i64 (0 - cmp3 a.k b.k), cmp3 a.i b.i]
theorem ahead_ok (a b : Vt) : FnR Try.prog 95 [a.av, b.av] (RI (aheadI a b)) := by
  refine fnR_intro (T := TT) (n := 18) Try.func95 rfl rfl rfl (fun w Z => ?_)
  (repeat (first | refine r_end ?_ | (refine r_op ?_; first | refine r_pure hT rfl rfl rfl rfl rfl rfl ?_ | refine r_box rfl rfl rfl rfl rfl rfl rfl rfl rfl ?_) | refine gi_seq ?_ | refine gi_plain_ne 1 rfl ?_))
  refine gi_drawM [] [(0, .p), (2, .p), (6, .p), (8, .p), (1, .t), (3, .t), (7, .t), (9, .t), (4, .o), (5, .p), (10, .o), (11, .o), (12, .o), (13, .p)] [0, 1, 0, 4, 10, 16, 0, 64, 0, 256, 656, 1056, 3072, 8191] [0, 1, 0, 4, 10, 16, 0, 64, 0, 256, 640, 1056, 2048, 4096] hm rfl (by kernel_rfl) (fun w1 K => ?_)
  (repeat ((refine r_op ?_; first | refine r_pure hT rfl rfl rfl rfl rfl rfl ?_ | refine r_load hT rfl rfl rfl rfl rfl rfl rfl rfl rfl ?_)))
  refine r_call (Compare_ok a.k b.k) rfl rfl rfl rfl rfl rfl rfl rfl Try.func66 rfl rfl rfl pI ?_
  rintro r S1 ⟨rfl, rfl⟩
  (repeat ((refine r_op ?_; refine r_pure hT rfl rfl rfl rfl rfl rfl ?_)))
  refine r_call (Compare_ok a.i b.i) rfl rfl rfl rfl rfl rfl rfl rfl Try.func66 rfl rfl rfl pI ?_
  rintro r S1 ⟨rfl, rfl⟩
  (repeat ((refine r_op ?_; refine r_lit hT rfl rfl rfl rfl rfl rfl rfl rfl rfl rfl rfl rfl rfl ?_)))
  refine r_call (Or_ok [wr .i64 (0 - cmp3 a.k b.k), cmp3 a.i b.i] (by show (2 : Nat) < _; decide)) rfl rfl rfl rfl rfl rfl rfl rfl Try.func65 rfl rfl rfl pI ?_
  rintro r S1 ⟨rfl, rfl⟩
  (repeat (first | refine r_end ?_ | (refine r_op ?_; refine r_pure hT rfl rfl rfl rfl rfl rfl ?_)))
  refine gi_retW hT Try.func95 rfl rfl [] rfl rfl rfl rfl ?_
  exact ⟨rfl, rfl⟩
end Go.Proofs.Ytmocggibcniggaa.Kt
namespace Go.Proofs.Ytmocggibcniggaa.Kt
open Go Kw Go.Proofs
attribute [local irreducible] Kw.GI Kw.GR Kw.FnR Kw.FnX
set_option maxHeartbeats 8000000
set_option maxRecDepth 100000
def btI (va vb : Vt) (a b : Nd) : Int := match notB (eqB (cmp3 a.c b.c) 0) with
  | true => cmp3 a.c b.c
  | false => match notB (decide (a.v = b.v)) with
    | true => aheadI a.v b.v
    | false => aheadI va vb
theorem better_ok (t : List Nd) (a b : Nd) (hl : t.length < 1000000) (na nb : Nd) (pa pb : Nat) (ha : a.p = pa) (hb : b.p = pb) (h1 : t[pa]? = some na) (h2 : t[pb]? = some nb) : FnR Try.prog 79 [rsNd t, a.av, b.av] (RB (ltB (btI na.v nb.v a b) 0)) := by
  have hal := (List.getElem?_eq_some_iff.1 h1).1
  have hbl := (List.getElem?_eq_some_iff.1 h2).1
  refine fnR_intro (T := TT) (n := 42) Try.func79 rfl rfl rfl (fun w Z => ?_)
  (repeat (first | refine r_end ?_ | (refine r_op ?_; first | refine r_pure hT rfl rfl rfl rfl rfl rfl ?_ | refine r_load hT rfl rfl rfl rfl rfl rfl rfl rfl rfl ?_ | refine r_box rfl rfl rfl rfl rfl rfl rfl rfl rfl ?_) | refine gi_seq ?_ | refine gi_plain ?_))
  refine r_call (Compare_ok a.c b.c) rfl rfl rfl rfl rfl rfl rfl rfl Try.func66 rfl rfl rfl pI ?_
  rintro r S1 ⟨rfl, rfl⟩
  (repeat (first | refine r_end ?_ | (refine r_op ?_; refine r_pure hT rfl rfl rfl rfl rfl rfl ?_) | refine gi_seq ?_ | refine gi_plain ?_ | refine gi_block ?_))
  apply gi_cut (σ := Unit) (fun _ => [(7, I (btI na.v nb.v a b))]) (fun _ => []) (fun _ => []) (fun _ => True) (fun _ => rfl)
  case first =>
    intro fin
    refine gi_cond rfl (fun c => ?_) (fun c => ?_)
    · have hbt : btI na.v nb.v a b = cmp3 a.c b.c := by unfold btI; rw [c]
      (repeat (first | refine gi_seq ?_ | refine gi_skip ?_ | refine gi_inBlock ?_))
      exact fin () _ _ _ trivial ⟨by rw [hbt]; rfl, trivial⟩ trivial trivial
    (repeat (first | (refine r_op ?_; first | refine r_pure hT rfl rfl rfl rfl rfl rfl ?_ | refine r_load hT rfl rfl rfl rfl rfl rfl rfl rfl rfl ?_) | refine gi_seq ?_ | refine gi_plain ?_))
    refine r_neT _ rfl rfl rfl rfl rfl rfl rfl rfl rfl y_flat_Vt ?_
    (repeat (first | refine r_end ?_ | (refine r_op ?_; refine r_pure hT rfl rfl rfl rfl rfl rfl ?_)))
    refine gi_cond rfl (fun c2 => ?_) (fun c2 => ?_)
    · rw [veq_eq a.v b.v] at c2
      have hbt : btI na.v nb.v a b = aheadI a.v b.v := by unfold btI; rw [c, c2]
      (repeat (first | (refine r_op ?_; first | refine r_pure hT rfl rfl rfl rfl rfl rfl ?_ | refine r_load hT rfl rfl rfl rfl rfl rfl rfl rfl rfl ?_) | refine gi_plain ?_))
      refine r_call (ahead_ok a.v b.v) rfl rfl rfl rfl rfl rfl rfl rfl Try.func95 rfl rfl rfl pI ?_
      rintro r S1 ⟨rfl, rfl⟩
      (repeat (first | refine r_end ?_ | (refine r_op ?_; refine r_pure hT rfl rfl rfl rfl rfl rfl ?_) | refine gi_seq ?_ | refine gi_inBlock ?_))
      exact fin () _ _ _ trivial ⟨by rw [hbt]; rfl, trivial⟩ trivial trivial
    rw [veq_eq a.v b.v] at c2
    have hbt : btI na.v nb.v a b = aheadI na.v nb.v := by unfold btI; rw [c, c2]
    skip
    refine gi_drawM [] [(0, .p), (1, .p), (6, .p), (7, .p), (2, .t), (3, .p), (4, .p), (5, .t), (8, .t), (9, .p), (10, .p), (11, .t), (12, .o), (13, .p)] [0, 0, 2, 5, 8, 16, 0, 0, 128, 320, 512, 1024, 2080, 8191] [0, 0, 2, 5, 8, 16, 0, 0, 128, 320, 512, 1024, 2080, 4096] hm rfl (by kernel_rfl) (fun w1 K => ?_)
    (repeat ((refine r_op ?_; first | refine r_pure hT rfl rfl rfl rfl rfl rfl ?_ | refine r_load hT rfl rfl rfl rfl rfl rfl rfl rfl rfl ?_)))
    refine r_turn (d := 15) (y := I (pa : Int)) rfl (by rw [← ha]) ?_
    refine r_idx (row := na.row) hT rfl rfl rfl rfl rfl rfl rfl rfl rfl rfl rfl rfl (by omega) (by simp [h1]) ?_
    (repeat ((refine r_op ?_; first | refine r_pure hT rfl rfl rfl rfl rfl rfl ?_ | refine r_load hT rfl rfl rfl rfl rfl rfl rfl rfl rfl ?_)))
    refine r_turn (d := 21) (y := I (pb : Int)) rfl (by rw [← hb]) ?_
    refine r_idx (row := nb.row) hT rfl rfl rfl rfl rfl rfl rfl rfl rfl rfl rfl rfl (by omega) (by simp [h2]) ?_
    (repeat ((refine r_op ?_; first | refine r_pure hT rfl rfl rfl rfl rfl rfl ?_ | refine r_load hT rfl rfl rfl rfl rfl rfl rfl rfl rfl ?_)))
    refine r_call (ahead_ok na.v nb.v) rfl rfl rfl rfl rfl rfl rfl rfl Try.func95 rfl rfl rfl pI ?_
    rintro r S1 ⟨rfl, rfl⟩
    (repeat (first | refine r_end ?_ | (refine r_op ?_; refine r_pure hT rfl rfl rfl rfl rfl rfl ?_) | refine gi_seq ?_ | refine gi_inBlock ?_))
    exact fin () _ _ _ trivial ⟨by rw [hbt]; rfl, trivial⟩ trivial trivial
  case after =>
    intro _ _
    (repeat (first | refine r_end ?_ | (refine r_op ?_; refine r_pure hT rfl rfl rfl rfl rfl rfl ?_) | refine gi_plain ?_))
    refine gi_retW hT Try.func79 rfl rfl [] rfl rfl rfl rfl ?_
    exact ⟨rfl, rfl⟩
/-- A router, or a network. -/
def KindOk (v : Vt) : Prop := v.k = 1 ∨ v.k = 2
theorem ahead_first {a b : Vt} (ha : KindOk a) (hb : KindOk b) : ltB (aheadI a b) 0 = firstB a b := by
  unfold aheadI firstB KindOk at *
  simp only [orL, cmp3, ltB_eq, eqB_eq, notB_eq]
  rcases ha with ha | ha <;> rcases hb with hb | hb <;> rw [ha, hb] <;> simp [wr_i64] <;> (split <;> simp_all <;> (try split) <;> simp_all <;> omega)
end Go.Proofs.Ytmocggibcniggaa.Kt
namespace Go.Proofs.Ytmocggibcniggaa.Kt
open Go Kw Go.Proofs
def valM (a b : Int) (l : MapL) : Option Value := (lookM a b l).map (·.2)
theorem valM_cons (a b c d : Int) (v : Value) (l : MapL) : valM a b ((c, d, v) :: l) = match keq a b c d with
    | true => some v
    | false => valM a b l := by
  unfold valM
  rw [lookM]
  cases keq a b c d with
  | true => rfl
  | false => cases lookM a b l <;> rfl
theorem keq_comm {a b c d : Int} : keq a b c d = keq c d a b := by
  rw [keq_iff, keq_iff]
  exact decide_eq_decide.2 ⟨fun h => ⟨h.1.symm, h.2.symm⟩, fun h => ⟨h.1.symm, h.2.symm⟩⟩
theorem valM_upd (a b c d : Int) (v : Value) : ∀ (l : MapL), valM a b (updM c d v l) = match keq a b c d with
    | true => some v
    | false => valM a b l
  | [] => by unfold updM; rw [valM_cons]
  | (e, f, x) :: l => by
    unfold updM
    cases h1 : keq c d e f with
    | true =>
      simp only
      rw [valM_cons, valM_cons]
      rw [keq_iff] at h1
      obtain ⟨rfl, rfl⟩ := of_decide_eq_true h1
      cases keq a b c d <;> rfl
    | false =>
      simp only
      rw [valM_cons, valM_cons, valM_upd a b c d v l]
      cases h2 : keq a b e f with
      | false => rfl
      | true =>
        rw [keq_iff] at h2
        obtain ⟨rfl, rfl⟩ := of_decide_eq_true h2
        rw [keq_comm, h1]
def isM (vs : List Vt) : MapL := vs.foldl (fun m v => updM v.k v.i (.bool true) m) []
theorem keq_vt (a b : Vt) : keq a.k a.i b.k b.i = decide (b = a) := by
  rw [keq_iff]
  refine decide_eq_decide.2 ⟨fun h => ?_, fun h => h ▸ ⟨rfl, rfl⟩⟩
  cases a; cases b; simp only [Vt.mk.injEq]; exact ⟨h.1.symm, h.2.symm⟩
theorem isM_fold (v : Vt) : ∀ (vs : List Vt) (m : MapL) (b : Bool), (valM v.k v.i m).getD (.bool false) = .bool b → (valM v.k v.i (vs.foldl (fun m v => updM v.k v.i (.bool true) m) m)).getD (.bool false) = .bool (b || vs.any (fun x => decide (x = v)))
  | [], m, b, h => by simpa using h
  | x :: vs, m, b, h => by
    rw [List.foldl_cons, List.any_cons]
    have := isM_fold v vs (updM x.k x.i (.bool true) m) (b || decide (x = v)) (by
      rw [valM_upd, keq_vt v x]
      by_cases hx : x = v
      · rw [decide_eq_true hx, Bool.or_true]; rfl
      · rw [decide_eq_false hx, Bool.or_false]; exact h)
    rw [this, Bool.or_assoc]
theorem isM_val (v : Vt) (vs : List Vt) : (((lookM v.k v.i (isM vs)).map (·.2)).getD (.bool false)) = .bool (vs.any (fun x => decide (x = v))) := by
  have := isM_fold v vs [] false rfl
  rw [Bool.false_or] at this
  exact this
def pmap : Nat → List Nd → MapL
  | _, [] => []
  | j, n :: t => (n.v.k, n.v.i, .int .i64 j) :: pmap (j + 1) t
theorem pmap_look (v : Vt) : ∀ (t : List Nd) (j : Nat), lookM v.k v.i (pmap j t) = (placeL t v).map (fun p => (p, .int .i64 ((p + j : Nat) : Int)))
  | [], j => rfl
  | n :: t, j => by
    unfold pmap lookM placeL
    rw [keq_vt v n.v, pmap_look v t (j + 1)]
    by_cases h : n.v = v
    · rw [decide_eq_true h, if_pos h]; simp
    · rw [decide_eq_false h, if_neg h]
      simp only
      cases placeL t v with
      | none => rfl
      | some p => simp only [Option.map_some]; rw [show p + (j + 1) = p + 1 + j by omega]
theorem pmap_app : ∀ (t : List Nd) (n : Nd) (j : Nat), pmap j (t ++ [n]) = pmap j t ++ [(n.v.k, n.v.i, .int .i64 ((j + t.length : Nat) : Int))]
  | [], n, j => rfl
  | m :: t, n, j => by
    rw [List.cons_append, pmap, pmap, pmap_app t n (j + 1), List.cons_append, List.length_cons, show j + 1 + t.length = j + (t.length + 1) by omega]
theorem updM_new {a b : Int} {v : Value} : ∀ {l : MapL}, lookM a b l = none → updM a b v l = l ++ [(a, b, v)]
  | [], _ => rfl
  | (c, d, x) :: l, h => by
    unfold lookM at h
    unfold updM
    cases hq : keq a b c d with
    | true => rw [hq] at h; cases h
    | false =>
      rw [hq] at h
      have hl : lookM a b l = none := by
        cases hl : lookM a b l with
        | none => rfl
        | some p => rw [hl] at h; cases h
      simp only
      rw [updM_new hl]; rfl
theorem pmap_upd {t : List Nd} {n : Nd} (h : placeL t n.v = none) : updM n.v.k n.v.i (.int .i64 (t.length : Nat)) (pmap 0 t) = pmap 0 (t ++ [n]) := by
  rw [updM_new (by rw [pmap_look, h]; rfl), pmap_app, Nat.zero_add]
/-! the program's order is the document's -/
def betr (t : List Nd) (a b : Nd) : Bool := ltB (btI (t.getD a.p.toNat zNd).v (t.getD b.p.toNat zNd).v a b) 0
theorem ahead_self (v : Vt) : aheadI v v = 0 := by
  unfold aheadI
  simp [orL, cmp3, wr_i64]
theorem bt_soon {va vb : Vt} {a b : Nd} (h1 : KindOk a.v) (h2 : KindOk b.v) (h3 : KindOk va) (h4 : KindOk vb) (hp : a.p = b.p → va = vb) : ltB (btI va vb a b) 0 = soonF va vb a b := by
  unfold btI soonF
  by_cases hc : a.c = b.c
  · rw [hc]
    simp only [eqB_eq, notB_eq, cmp3, beq_self_eq_true, Int.lt_irrefl, if_false, Bool.not_true]
    by_cases hv : a.v = b.v
    · rw [decide_eq_true hv]
      simp only [Bool.not_true]
      by_cases hpp : a.p = b.p
      · rw [hp hpp, ahead_self, hpp]
        simp [ltB_eq]
      · rw [ahead_first h3 h4]
        have : (a.p == b.p) = false := by simpa using hpp
        rw [this]; rfl
    · rw [decide_eq_false hv]
      simp only [Bool.not_false]
      exact ahead_first h1 h2
  · have h5 : notB (eqB a.c b.c) = true := by rw [notB_eq, eqB_eq]; simpa using hc
    have h6 : notB (eqB (cmp3 a.c b.c) 0) = true := by
      rw [notB_eq, eqB_eq]
      unfold cmp3
      split
      · rfl
      · split
        · rfl
        · omega
    rw [h5, h6]
    simp only [ltB_eq]
    unfold cmp3
    split
    · rename_i h; simp [h]
    · rename_i h
      split <;> simp [h]
end Go.Proofs.Ytmocggibcniggaa.Kt
namespace Go.Proofs.Ytmocggibcniggaa.Kt
open Go Kw Go.Proofs
attribute [local irreducible] Kw.GI Kw.GR Kw.FnR Kw.FnX
set_option maxHeartbeats 16000000
set_option maxRecDepth 100000
abbrev MO : Nat := 4294967295
abbrev hMp (l : MapL) : Option (TypeId × List AV) := some (4294967295, mapC l)
def prgTree (m : Mp) (root : Vt) : List Nd := match m.vs.any (fun x => decide (x = root)) with
  | true => treeN betr m.es m.vs.length [rootN root]
  | false => []
theorem pig : ∀ {l l' : List Vt}, l.Nodup → (∀ x ∈ l, x ∈ l') → l.length ≤ l'.length
  | [], _, _, _ => Nat.zero_le _
  | x :: l, l', h, hs => by
    rw [List.nodup_cons] at h
    have hx := hs x (List.mem_cons_self ..)
    have h1 := pig (l := l) (l' := l'.erase x) h.2 (fun y hy => (List.mem_erase_of_ne (fun (e : y = x) => h.1 (by rw [← e]; exact hy))).2 (hs y (List.mem_cons_of_mem _ hy)))
    have h2 := List.length_erase_of_mem hx
    have h3 := List.length_pos_of_mem hx
    rw [List.length_cons]
    omega
theorem scL_mapC {n k : Nat} : ∀ (l : MapL), scL n k (mapC l) = true
  | [] => rfl
  | (a, b, v) :: l => by
    show (true && (true && (true && scL n k (mapC l)))) = true
    rw [scL_mapC l]; rfl
theorem pkL_mapC {bs ks : List Nat} : ∀ (l : MapL), pkL bs ks (mapC l) = mapC l
  | [] => rfl
  | (a, b, v) :: l => by
    show _ :: _ :: _ :: pkL bs ks (mapC l) = mapC ((a, b, v) :: l)
    rw [pkL_mapC l]; rfl
theorem cut_mapC {k : Nat} : ∀ (l : MapL), cutLP (noK k) (mapC l) = mapC l
  | [] => rfl
  | (a, b, v) :: l => by
    show _ :: _ :: _ :: cutLP (noK k) (mapC l) = mapC ((a, b, v) :: l)
    rw [cut_mapC l]; rfl
theorem sc1 {n k : Nat} {F : Fr} {m : Mp} {root : Vt} {l : MapL} (h : scF n k F = true) : (scF n k F && (true && (true && (scL n k (mapC l) && true)))) = true := by
  rw [h, scL_mapC]; rfl
def placeJ : Option Nat → Int
  | some i => i
  | none => 0
theorem lk_ok (v : Vt) (t : List Nd) : (AV.tup [I (placeJ (placeL t v)), Bo (placeL t v).isSome]) = if true then .tup [.r (.v (((lookM v.k v.i (pmap 0 t)).map (·.2)).getD (.int .i64 0))), .r (.v (.bool (lookM v.k v.i (pmap 0 t)).isSome))] else .r (.v (((lookM v.k v.i (pmap 0 t)).map (·.2)).getD (.int .i64 0))) := by
  rw [pmap_look]
  cases placeL t v with
  | none => rfl
  | some p => rfl
theorem isM_ok (v : Vt) (vs : List Vt) : (Bo (vs.any (fun x => decide (x = v)))) = if false then .tup [.r (.v (((lookM v.k v.i (isM vs)).map (·.2)).getD (.bool false))), .r (.v (.bool (lookM v.k v.i (isM vs)).isSome))] else .r (.v (((lookM v.k v.i (isM vs)).map (·.2)).getD (.bool false))) := by
  rw [isM_val]
  rfl
theorem sc2 {b : Bool} {l l' : MapL} {n k : Nat} (h : b = true) : (b && (true && (true && (scL n k (mapC l) && (scL n k (mapC l') && (true && true)))))) = true := by
  rw [h, scL_mapC, scL_mapC]; rfl
theorem best_fold {bt : List Nd → Nd → Nd → Bool} {t : List Nd} {b : Nd} : ∀ {es : List Eg} {m : Option Nd}, es.foldl (stepT bt t) m = some b → m = some b ∨ ∃ e ∈ es, candL t e = some b
  | [], m, h => .inl h
  | e :: es, m, h => by
    rcases best_fold (es := es) h with h | ⟨e', h1, h2⟩
    · unfold stepT at h
      split at h
      · exact .inl h
      · rename_i n hn
        split at h
        · cases h; exact .inr ⟨e, List.mem_cons_self .., hn⟩
        · split at h
          · cases h; exact .inr ⟨e, List.mem_cons_self .., hn⟩
          · exact .inl h
    · exact .inr ⟨e', List.mem_cons_of_mem _ h1, h2⟩
theorem best_new {bt : List Nd → Nd → Nd → Bool} {t : List Nd} {b : Nd} {es : List Eg} (h : bestL bt t es = some b) : placeL t b.v = none ∧ ∃ e ∈ es, b.v = e.t := by
  rcases best_fold h with h | ⟨e, h1, h2⟩
  · cases h
  · unfold candL at h2
    split at h2
    · rename_i hq
      cases h2
      exact ⟨hq, e, h1, rfl⟩
    · cases h2
theorem pTree_ok (m : Mp) (root : Vt) (hv : m.vs.length ≤ 10000) (he : m.es.length ≤ 10000000) (hto : ∀ e ∈ m.es, m.vs.any (fun x => decide (x = e.t)) = true) : FnX Try.prog 49 [avMf m, root.av] [] [] (RV1 (eNd (prgTree m root))) := by
  refine fnX_intro (T := TT) (n := 110) Try.func49 rfl rfl rfl (fun w X Z Y B => ?_)
  (repeat (first | refine r_end ?_ | (refine r_op ?_; first | refine r_pure hT rfl rfl rfl rfl rfl rfl ?_ | refine r_load hT rfl rfl rfl rfl rfl rfl rfl rfl rfl ?_ | refine r_box rfl rfl rfl rfl rfl rfl rfl rfl rfl ?_) | refine gi_seq ?_ | refine gi_plain ?_))
  refine r_thaw 20 rfl ?_
  refine r_call (ContainsV_ok m.vs root (by omega)) rfl rfl rfl rfl rfl rfl rfl rfl Try.func55 rfl rfl rfl pB ?_
  rintro r S1 ⟨rfl, rfl⟩
  (repeat (first | refine r_end ?_ | (refine r_op ?_; refine r_pure hT rfl rfl rfl rfl rfl rfl ?_)))
  refine gi_cond rfl (fun c0 => ?_) (fun c0 => ?_)
  · rw [notB_eq, Bool.not_eq_true'] at c0
    have hrt : prgTree m root = [] := by unfold prgTree; rw [c0]
    (repeat (first | refine r_end ?_ | (refine r_op ?_; refine r_pure hT rfl rfl rfl rfl rfl rfl ?_) | refine gi_seq ?_ | refine gi_plain ?_))
    refine gi_adopt (e := 58) (sz := 5) 4 rfl ?_
    refine gi_retX hT Try.func49 rfl [] [0] rfl rfl rfl rfl rfl rfl rfl rfl ?_
    exact ⟨rfl, rfl, by rw [hrt]; rfl⟩
  rw [notB_eq, Bool.not_eq_false'] at c0
  have hrt : prgTree m root = treeN betr m.es m.vs.length [rootN root] := by unfold prgTree; rw [c0]
  (repeat (first | refine gi_seq ?_ | refine gi_plain ?_ | refine gi_skip ?_))
  refine r_makeMap rfl rfl rfl rfl rfl ?_
  (repeat (first | refine r_end ?_ | (refine r_op ?_; first | refine r_pure hT rfl rfl rfl rfl rfl rfl ?_ | refine r_load hT rfl rfl rfl rfl rfl rfl rfl rfl rfl ?_) | refine gi_seq ?_ | refine gi_plain ?_ | refine gi_block ?_))
  apply gi_cut (σ := Unit) (fun _ => [(5, .box 2 MO), (3, .box 1 0), (2, .box 0 0)]) (fun _ => [hMf m, hV root, hMp (isM m.vs)]) (fun _ => []) (fun _ => True) (fun _ => sc1 (m := m) (root := root) rfl)
  case first =>
    intro fin
    refine gi_thaw 26 rfl ?_
    refine gi_loop (σ := Nat) (fun j => [(28, I j), (27, I m.vs.length), (26, .r (.rs 2 (m.vs.map Vt.row))), (5, .box 2 MO), (3, .box 1 0), (2, .box 0 0)]) (fun j => [hMf m, hV root, hMp (isM (m.vs.take j))]) (fun _ => []) (fun j => j ≤ m.vs.length) (fun j => m.vs.length - j) 0 (Nat.zero_le _) ⟨rfl, by show some (I ((m.vs.map Vt.row).length : Nat)) = _; rw [List.length_map], rfl, rfl, rfl, rfl, trivial⟩ ⟨rfl, rfl, rfl, trivial⟩ trivial (fun _ => sc1 (m := m) (root := root) rfl) (fun j hj next => ?_)
    have hj : j ≤ m.vs.length := hj
    (repeat (first | refine r_end ?_ | (refine r_op ?_; refine r_pure hT rfl rfl rfl rfl rfl rfl ?_) | refine gi_seq ?_ | refine gi_plain ?_))
    refine gi_lt rfl (fun h3 => ?_) (fun h3 => ?_)
    · have hjl : j < m.vs.length := by omega
      obtain ⟨x, hx⟩ : ∃ x, m.vs[j]? = some x := ⟨_, List.getElem?_eq_getElem hjl⟩
      have hft : isM (m.vs.take (j + 1)) = updM x.k x.i (.bool true) (isM (m.vs.take j)) := fold_take (fun (mm : MapL) (v : Vt) => updM v.k v.i (.bool true) mm) [] hx
      (repeat (first | refine gi_seq ?_ | refine gi_plain ?_ | refine gi_skip ?_ | refine gi_block ?_))
      refine r_idx (row := x.row) hT rfl rfl rfl rfl rfl rfl rfl rfl rfl rfl rfl rfl (by omega) (by simp [hx]) ?_
      (repeat (first | refine r_end ?_ | (refine r_op ?_; first | refine r_pure hT rfl rfl rfl rfl rfl rfl ?_ | refine r_load hT rfl rfl rfl rfl rfl rfl rfl rfl rfl ?_ | refine r_store hT rfl rfl rfl rfl rfl rfl rfl rfl rfl rfl ?_ | refine r_alloc hT rfl rfl rfl rfl rfl rfl rfl rfl rfl ?_) | refine gi_plain ?_))
      refine r_mapUpd (l := isM (m.vs.take j)) (p := x.k) (r := x.i) (v := .bool true) rfl (.inl rfl) rfl rfl rfl rfl rfl rfl Try.underlying135 y_flat_Vt ?_
      (repeat (first | refine r_end ?_ | (refine r_op ?_; refine r_pure hT rfl rfl rfl rfl rfl rfl ?_) | refine gi_plain ?_ | refine gi_inBlock ?_))
      refine next (j + 1) _ _ _ hjl (by omega) ⟨?_, rfl, rfl, rfl, rfl, rfl, trivial⟩ ⟨rfl, rfl, by rw [hft], trivial⟩ trivial
      show some (I (wr .i64 ((j : Int) + 1))) = _
      rw [wr_i64 (by omega) (by omega)]
      simp
    · have hjl : j = m.vs.length := by omega
      subst hjl
      rw [List.take_length]
      (repeat (first | refine gi_seq ?_ | refine gi_exit rfl ?_))
      exact fin () _ _ _ trivial ⟨rfl, rfl, rfl, trivial⟩ ⟨rfl, rfl, rfl, trivial⟩ trivial
  case after =>
    intro _ _
    (repeat (first | refine r_end ?_ | (refine r_op ?_; first | refine r_pure hT rfl rfl rfl rfl rfl rfl ?_ | refine r_load hT rfl rfl rfl rfl rfl rfl rfl rfl rfl ?_ | refine r_lit hT rfl rfl rfl rfl rfl rfl rfl rfl rfl rfl rfl rfl rfl ?_) | refine gi_seq ?_ | refine gi_plain ?_))
    refine r_makeMap rfl rfl rfl rfl rfl ?_
    (repeat ((refine r_op ?_; refine r_load hT rfl rfl rfl rfl rfl rfl rfl rfl rfl ?_)))
    refine r_mapUpd (l := []) (p := root.k) (r := root.i) (v := .int .i64 0) rfl (.inr rfl) rfl rfl rfl rfl rfl rfl Try.underlying136 y_flat_Vt ?_
    (repeat (first | refine r_end ?_ | (refine r_op ?_; refine r_pure hT rfl rfl rfl rfl rfl rfl ?_) | refine gi_block ?_))
    refine gi_loop (σ := Nat × List Nd) (fun _ => [(8, .sl 0), (9, .box 3 MO), (5, .box 2 MO), (3, .box 1 0), (2, .box 0 0)]) (fun s => [hMf m, hV root, hMp (isM m.vs), hMp (pmap 0 s.2)]) (fun s => [eNd s.2]) (fun s => treeN betr m.es s.1 s.2 = prgTree m root ∧ s.2.length + s.1 = m.vs.length + 1 ∧ (s.2.map Nd.v).Nodup ∧ ∀ x ∈ s.2.map Nd.v, x ∈ m.vs) (fun s => s.1) (m.vs.length, [rootN root]) ⟨hrt.symm, by simp only [List.length_cons, List.length_nil]; omega, by simp, ?_⟩ ⟨rfl, rfl, rfl, rfl, rfl, trivial⟩ ⟨rfl, rfl, rfl, rfl, trivial⟩ ⟨rfl, trivial⟩ (fun s => ?_) (fun s hs next => ?_)
    · intro x hx
      obtain ⟨y, hy, hyr⟩ := List.any_eq_true.1 c0
      simp only [List.map_cons, List.map_nil, List.mem_singleton] at hx
      rw [hx, show (rootN root).v = root from rfl, ← of_decide_eq_true hyr]
      exact hy
    · show (true && (true && (true && (scL _ _ (mapC (isM m.vs)) && (scL _ _ (mapC (pmap 0 s.2)) && true))))) = true
      rw [scL_mapC, scL_mapC]; rfl
    obtain ⟨k, t⟩ := s
    obtain ⟨ht, hk, hnd, hsub⟩ := hs
    simp only at ht hk hnd hsub
    have htl : t.length ≤ m.vs.length := by have := pig hnd hsub; rwa [List.length_map] at this
    obtain ⟨k', rfl⟩ : ∃ k', k = k' + 1 := ⟨k - 1, by omega⟩
    (repeat (first | refine r_end ?_ | (refine r_op ?_; first | refine r_pure hT rfl rfl rfl rfl rfl rfl ?_ | refine r_load hT rfl rfl rfl rfl rfl rfl rfl rfl rfl ?_ | refine r_alloc hT rfl rfl rfl rfl rfl rfl rfl rfl rfl ?_) | refine gi_seq ?_ | refine gi_plain ?_ | refine gi_block ?_))
    refine gi_thaw 42 rfl ?_
    apply gi_cut (σ := Unit) (fun _ => [(11, Bo (bestL betr t m.es).isSome), (10, .box 4 0), (8, .sl 0), (9, .box 3 MO), (5, .box 2 MO), (3, .box 1 0), (2, .box 0 0)]) (fun _ => [hMf m, hV root, hMp (isM m.vs), hMp (pmap 0 t), hNd ((bestL betr t m.es).getD zNd)]) (fun _ => [eNd t]) (fun _ => True) (fun _ => sc2 rfl)
    case first =>
      intro fin
      refine gi_loop (σ := Nat) (fun j => [(44, I j), (43, I m.es.length), (42, .r (.rs 6 (m.es.map Eg.row))), (11, Bo (bestL betr t (m.es.take j)).isSome), (10, .box 4 0), (8, .sl 0), (9, .box 3 MO), (5, .box 2 MO), (3, .box 1 0), (2, .box 0 0)]) (fun j => [hMf m, hV root, hMp (isM m.vs), hMp (pmap 0 t), hNd ((bestL betr t (m.es.take j)).getD zNd)]) (fun _ => [eNd t]) (fun j => j ≤ m.es.length) (fun j => m.es.length - j) 0 (Nat.zero_le _) ⟨rfl, by show some (I ((m.es.map Eg.row).length : Nat)) = _; rw [List.length_map], rfl, rfl, rfl, rfl, rfl, rfl, rfl, rfl, trivial⟩ ⟨rfl, rfl, rfl, rfl, rfl, trivial⟩ ⟨rfl, trivial⟩ (fun _ => sc2 rfl) (fun j hj next2 => ?_)
      have hj : j ≤ m.es.length := hj
      (repeat (first | refine r_end ?_ | (refine r_op ?_; refine r_pure hT rfl rfl rfl rfl rfl rfl ?_) | refine gi_seq ?_ | refine gi_plain ?_))
      refine gi_lt rfl (fun h5 => ?_) (fun h5 => ?_)
      · have hjl : j < m.es.length := by omega
        obtain ⟨e, hee⟩ : ∃ e, m.es[j]? = some e := ⟨_, List.getElem?_eq_getElem hjl⟩
        have hft : bestL betr t (m.es.take (j + 1)) = stepT betr t (bestL betr t (m.es.take j)) e := fold_take (stepT betr t) none hee
        have hgood : ∀ b, bestL betr t (m.es.take j) = some b → GoodN t b := fun b h => best_good (es := m.es.take j) (fun b h => by cases h) b h
        obtain ⟨M, hM⟩ : ∃ M, M = bestL betr t (m.es.take j) := ⟨_, rfl⟩
        rw [← hM] at hft hgood
        rw [← hM]
        have nx : ∀ M', M' = stepT betr t M e → ∀ F1 H1 S1, SubF [(44, I (wr .i64 ((j : Int) + 1))), (43, I m.es.length), (42, .r (.rs 6 (m.es.map Eg.row))), (11, Bo M'.isSome), (10, .box 4 0), (8, .sl 0), (9, .box 3 MO), (5, .box 2 MO), (3, .box 1 0), (2, .box 0 0)] F1 → SubH [hMf m, hV root, hMp (isM m.vs), hMp (pmap 0 t), hNd (M'.getD zNd)] H1 → SubS [eNd t] S1 → GI _ _ F1 H1 S1 := fun M' h F1 H1 S1 hF hH hS => by
          refine next2 (j + 1) F1 H1 S1 hjl (by omega) ?_ (by rw [hft, ← h]; exact hH) hS
          rw [hft, ← h]
          rw [wr_i64 (by omega) (by omega)] at hF
          simpa using hF
        (repeat (first | refine gi_seq ?_ | refine gi_plain ?_ | refine gi_skip ?_ | refine gi_block ?_))
        refine r_idx (row := e.row) hT rfl rfl rfl rfl rfl rfl rfl rfl rfl rfl rfl rfl (by omega) (by simp [hee]) ?_
        (repeat (first | refine r_end ?_ | (refine r_op ?_; first | refine r_pure hT rfl rfl rfl rfl rfl rfl ?_ | refine r_load hT rfl rfl rfl rfl rfl rfl rfl rfl rfl ?_ | refine r_store hT rfl rfl rfl rfl rfl rfl rfl rfl rfl rfl ?_ | refine r_alloc hT rfl rfl rfl rfl rfl rfl rfl rfl rfl ?_) | refine gi_seq ?_ | refine gi_plain ?_))
        refine r_lookup (l := pmap 0 t) (p := e.f.k) (r := e.f.i) (ok := true) (zv := .int .i64 0) (v := .tup [I (placeJ (placeL t e.f)), Bo (placeL t e.f).isSome]) rfl rfl rfl rfl rfl rfl rfl rfl Try.underlying136 y_flat_Vt (by kernel_rfl) (lk_ok e.f t) rfl ?_
        (repeat (first | refine r_end ?_ | (refine r_op ?_; first | refine r_pure hT rfl rfl rfl rfl rfl rfl ?_ | refine r_load hT rfl rfl rfl rfl rfl rfl rfl rfl rfl ?_) | refine gi_seq ?_ | refine gi_plain ?_))
        refine r_lookup (l := pmap 0 t) (p := e.t.k) (r := e.t.i) (ok := true) (zv := .int .i64 0) (v := .tup [I (placeJ (placeL t e.t)), Bo (placeL t e.t).isSome]) rfl rfl rfl rfl rfl rfl rfl rfl Try.underlying136 y_flat_Vt (by kernel_rfl) (lk_ok e.t t) rfl ?_
        (repeat (first | refine r_end ?_ | (refine r_op ?_; refine r_pure hT rfl rfl rfl rfl rfl rfl ?_) | refine gi_seq ?_ | refine gi_plain ?_))
        refine r_case (d := 64) rfl (fun c1 => ?_) (fun c1 => ?_)
        · rw [notB_eq, Bool.not_eq_true'] at c1
          have hst : stepT betr t M e = M := by
            unfold stepT candL
            cases hp : placeL t e.f with
            | none => rfl
            | some p => rw [hp] at c1; cases c1
          (repeat (first | refine r_end ?_ | (refine r_op ?_; first | refine r_pure hT rfl rfl rfl rfl rfl rfl ?_ | refine r_off rfl rfl rfl rfl rfl ?_) | refine gi_plain ?_ | refine gi_exit rfl ?_ | (refine gi_cnd ?_; first | refine gi_true rfl ?_ | refine gi_false rfl ?_)))
          exact nx M hst.symm _ _ _ ⟨rfl, rfl, rfl, rfl, rfl, rfl, rfl, rfl, rfl, rfl, trivial⟩ ⟨rfl, rfl, rfl, rfl, rfl, trivial⟩ ⟨rfl, trivial⟩
        rw [notB_eq, Bool.not_eq_false'] at c1
        obtain ⟨p, hp⟩ : ∃ p, placeL t e.f = some p := Option.isSome_iff_exists.1 c1
        (repeat ((refine r_op ?_; refine r_pure hT rfl rfl rfl rfl rfl rfl ?_)))
        refine r_case (d := 67) rfl (fun c2 => ?_) (fun c2 => ?_)
        · have hst : stepT betr t M e = M := by
            unfold stepT candL
            rw [hp]
            cases hq : placeL t e.t with
            | none => rw [hq] at c2; cases c2
            | some p => rfl
          (repeat (first | refine r_end ?_ | (refine r_op ?_; first | refine r_pure hT rfl rfl rfl rfl rfl rfl ?_ | refine r_off rfl rfl rfl rfl rfl ?_) | refine gi_plain ?_ | refine gi_exit rfl ?_ | (refine gi_cnd ?_; first | refine gi_true rfl ?_ | refine gi_false rfl ?_)))
          exact nx M hst.symm _ _ _ ⟨rfl, rfl, rfl, rfl, rfl, rfl, rfl, rfl, rfl, rfl, trivial⟩ ⟨rfl, rfl, rfl, rfl, rfl, trivial⟩ ⟨rfl, trivial⟩
        have hq : placeL t e.t = none := by
          cases hq : placeL t e.t with
          | none => rfl
          | some p => rw [hq] at c2; cases c2
        (repeat ((refine r_op ?_; first | refine r_pure hT rfl rfl rfl rfl rfl rfl ?_ | refine r_load hT rfl rfl rfl rfl rfl rfl rfl rfl rfl ?_)))
        refine r_lookup (l := isM m.vs) (p := e.t.k) (r := e.t.i) (ok := false) (zv := .bool false) (v := Bo (m.vs.any (fun x => decide (x = e.t)))) rfl rfl rfl rfl rfl rfl rfl rfl Try.underlying135 y_flat_Vt (by kernel_rfl) (isM_ok e.t m.vs) rfl ?_
        have hin := hto e (List.mem_of_getElem? hee)
        (repeat (first | refine r_end ?_ | (refine r_op ?_; refine r_pure hT rfl rfl rfl rfl rfl rfl ?_)))
        refine gi_known (d := 73) (b := false) rfl (by rw [notB_eq, hin]; rfl) ?_
        have hpl := placeL_lt hp
        obtain ⟨np, hnp⟩ : ∃ np, t[p]? = some np := ⟨_, List.getElem?_eq_getElem hpl⟩
        have hgd : t.getD p zNd = np := by rw [List.getD_eq_getElem?_getD, hnp]; rfl
        obtain ⟨nn, hnn⟩ : ∃ nn : Nd, nn = ⟨e.t, p, wr .i64 (np.c + e.c), e.d⟩ := ⟨_, rfl⟩
        have hc : candL t e = some nn := by unfold candL; rw [hp, hq]; show some (Nd.mk e.t (p : Nat) (wr .i64 ((t.getD p zNd).c + e.c)) e.d) = _; rw [hgd, hnn]
        (repeat (first | refine gi_seq ?_ | refine gi_skip ?_ | (refine gi_cnd ?_; first | refine gi_true rfl ?_ | refine gi_false rfl ?_)))
        refine gi_drawM [15] [(0, .p), (2, .p), (3, .p), (4, .p), (5, .p), (6, .p), (8, .p), (11, .p), (1, .t), (7, .t), (9, .t), (10, .p), (12, .t), (13, .p), (14, .o), (15, .l)] [0, 1, 0, 0, 0, 24, 32, 64, 0, 256, 640, 0, 2048, 5126, 0, 32767] [0, 1, 0, 0, 0, 24, 32, 64, 0, 256, 640, 0, 2048, 5126, 0, 24576] hm rfl (by kernel_rfl) (fun w1 K => ?_)
        (repeat ((refine r_op ?_; refine r_pure hT rfl rfl rfl rfl rfl rfl ?_)))
        refine r_turn (d := 76) (y := I (p : Int)) rfl (by rw [hp]; rfl) ?_
        refine r_turn (d := 78) (y := I (p : Int)) rfl (by rw [hp]; rfl) ?_
        refine r_idxS hT rfl rfl rfl rfl rfl rfl rfl rfl rfl rfl rfl rfl rfl (by (try dsimp only) <;> (try simp only [wrL, List.length_map, List.length_append, List.length_take, List.length_drop, List.length_replicate, List.length_cons, List.length_nil]) <;> omega) (by (try dsimp only) <;> (try simp only [wrL, List.length_map, List.length_append, List.length_take, List.length_drop, List.length_replicate, List.length_cons, List.length_nil]) <;> omega) ?_
        (repeat ((refine r_op ?_; first | refine r_pure hT rfl rfl rfl rfl rfl rfl ?_ | refine r_load hT rfl rfl rfl rfl rfl rfl rfl rfl rfl ?_)))
        refine r_loadS (row := np.row) hT rfl rfl rfl rfl rfl rfl rfl rfl (by show (t.map Nd.row)[((p : Int)).toNat]? = _; rw [Int.toNat_natCast, List.getElem?_map, hnp]; rfl) rfl rfl rfl ?_
        (repeat (first | refine r_end ?_ | (refine r_op ?_; first | refine r_pure hT rfl rfl rfl rfl rfl rfl ?_ | refine r_load hT rfl rfl rfl rfl rfl rfl rfl rfl rfl ?_ | refine r_store hT rfl rfl rfl rfl rfl rfl rfl rfl rfl rfl ?_ | refine r_alloc hT rfl rfl rfl rfl rfl rfl rfl rfl rfl ?_) | refine gi_seq ?_ | refine gi_plain ?_))
        refine r_case (d := 90) rfl (fun c3 => ?_) (fun c3 => ?_)
        · have hMn : M = none := by
            cases hMb : M with
            | none => rfl
            | some b => rw [hMb, notB_eq] at c3; cases c3
          have hst : stepT betr t M e = some nn := by unfold stepT; rw [hc, hMn]
          (repeat (first | refine r_end ?_ | (refine r_op ?_; first | refine r_pure hT rfl rfl rfl rfl rfl rfl ?_ | refine r_load hT rfl rfl rfl rfl rfl rfl rfl rfl rfl ?_ | refine r_store hT rfl rfl rfl rfl rfl rfl rfl rfl rfl rfl ?_ | refine r_off rfl rfl rfl rfl rfl ?_) | refine gi_plain ?_ | refine gi_inBlock ?_ | (refine gi_cnd ?_; first | refine gi_true rfl ?_ | refine gi_false rfl ?_)))
          refine nx (some nn) hst.symm _ _ _ ⟨rfl, rfl, rfl, rfl, rfl, rfl, rfl, rfl, rfl, rfl, trivial⟩ ⟨rfl, rfl, rfl, rfl, ?_, trivial⟩ ⟨rfl, trivial⟩
          rw [hnn]; rfl
        · obtain ⟨b, hMb⟩ : ∃ b, M = some b := by
            cases hMb : M with
            | none => rw [hMb, notB_eq] at c3; cases c3
            | some b => exact ⟨b, rfl⟩
          obtain ⟨pb, hb, hbl⟩ := hgood b hMb
          obtain ⟨nb, hnb⟩ : ∃ nb, t[pb]? = some nb := ⟨_, List.getElem?_eq_getElem hbl⟩
          have hsn : betr t nn b = ltB (btI np.v nb.v nn b) 0 := by
            unfold betr
            rw [hb, show nn.p = (p : Nat) by rw [hnn], Int.toNat_natCast, Int.toNat_natCast, hgd, List.getD_eq_getElem?_getD, hnb]; try rfl
          have hst : stepT betr t M e = match ltB (btI np.v nb.v nn b) 0 with
            | true => some nn
            | false => some b := by unfold stepT; rw [hc, hMb, ← hsn]; try rfl
          subst hMb
          subst hnn
          (repeat ((refine r_op ?_; first | refine r_pure hT rfl rfl rfl rfl rfl rfl ?_ | refine r_load hT rfl rfl rfl rfl rfl rfl rfl rfl rfl ?_)))
          refine r_call (better_ok t ⟨e.t, p, wr .i64 (np.c + e.c), e.d⟩ b (by omega) np nb p pb rfl hb hnp hnb) rfl rfl rfl rfl rfl rfl rfl rfl Try.func79 rfl rfl rfl pB ?_
          rintro r S1 ⟨rfl, rfl⟩
          (repeat (first | refine r_end ?_ | (refine r_op ?_; refine r_pure hT rfl rfl rfl rfl rfl rfl ?_)))
          refine gi_cond rfl (fun c4 => ?_) (fun c4 => ?_)
          · rw [c4] at hst
            (repeat (first | refine r_end ?_ | (refine r_op ?_; first | refine r_pure hT rfl rfl rfl rfl rfl rfl ?_ | refine r_load hT rfl rfl rfl rfl rfl rfl rfl rfl rfl ?_ | refine r_store hT rfl rfl rfl rfl rfl rfl rfl rfl rfl rfl ?_) | refine gi_plain ?_ | refine gi_inBlock ?_))
            exact nx (some _) hst.symm _ _ _ ⟨rfl, rfl, rfl, rfl, rfl, rfl, rfl, rfl, rfl, rfl, trivial⟩ ⟨rfl, rfl, rfl, rfl, rfl, trivial⟩ ⟨rfl, trivial⟩
          · rw [c4] at hst
            (repeat (first | refine r_end ?_ | (refine r_op ?_; refine r_pure hT rfl rfl rfl rfl rfl rfl ?_) | refine gi_plain ?_ | refine gi_skip ?_ | refine gi_inBlock ?_))
            exact nx (some b) hst.symm _ _ _ ⟨rfl, rfl, rfl, rfl, rfl, rfl, rfl, rfl, rfl, rfl, trivial⟩ ⟨rfl, rfl, rfl, rfl, rfl, trivial⟩ ⟨rfl, trivial⟩
      · have hjl : j = m.es.length := by omega
        subst hjl
        rw [List.take_length]
        (repeat (first | refine gi_seq ?_ | refine gi_exit rfl ?_))
        exact fin () _ _ _ trivial ⟨rfl, rfl, rfl, rfl, rfl, rfl, rfl, trivial⟩ ⟨rfl, rfl, rfl, rfl, rfl, trivial⟩ ⟨rfl, trivial⟩
    case after =>
      intro _ _
      obtain ⟨M, hM⟩ : ∃ M, M = bestL betr t m.es := ⟨_, rfl⟩
      rw [← hM]
      cases hMb : M with
      | none =>
        have hstep : prgTree m root = t := by rw [← ht, treeN_none (hM.symm.trans hMb)]
        (repeat (first | refine r_end ?_ | (refine r_op ?_; refine r_pure hT rfl rfl rfl rfl rfl rfl ?_) | refine gi_plain ?_))
        refine gi_known (d := 99) (b := true) rfl (by rw [notB_eq]; rfl) ?_
        (repeat (first | refine r_end ?_ | (refine r_op ?_; refine r_pure hT rfl rfl rfl rfl rfl rfl ?_) | refine gi_seq ?_ | refine gi_plain ?_ | (refine gi_cnd ?_; first | refine gi_true rfl ?_ | refine gi_false rfl ?_)))
        refine gi_retX hT Try.func49 rfl [] [0] rfl rfl rfl rfl rfl rfl rfl rfl ?_
        exact ⟨rfl, rfl, by rw [hstep]⟩
      | some b =>
        have hstep : prgTree m root = treeN betr m.es k' (t ++ [b]) := by rw [← ht, treeN_some (hM.symm.trans hMb)]
        obtain ⟨hb1, hb2⟩ := best_new (hM.symm.trans hMb)
        (repeat (first | refine r_end ?_ | (refine r_op ?_; refine r_pure hT rfl rfl rfl rfl rfl rfl ?_) | refine gi_plain ?_))
        refine gi_known (d := 99) (b := false) rfl (by rw [notB_eq]; rfl) ?_
        (repeat (first | (refine r_op ?_; first | refine r_pure hT rfl rfl rfl rfl rfl rfl ?_ | refine r_load hT rfl rfl rfl rfl rfl rfl rfl rfl rfl ?_) | refine gi_seq ?_ | refine gi_plain ?_ | refine gi_skip ?_ | (refine gi_cnd ?_; first | refine gi_true rfl ?_ | refine gi_false rfl ?_)))
        refine r_mapUpd (l := pmap 0 t) (p := b.v.k) (r := b.v.i) (v := .int .i64 ((t.map Nd.row).length : Nat)) rfl (.inl rfl) rfl rfl rfl rfl rfl rfl Try.underlying136 y_flat_Vt ?_
        (repeat (first | refine r_end ?_ | (refine r_op ?_; first | refine r_pure hT rfl rfl rfl rfl rfl rfl ?_ | refine r_load hT rfl rfl rfl rfl rfl rfl rfl rfl rfl ?_ | refine r_lit hT rfl rfl rfl rfl rfl rfl rfl rfl rfl rfl rfl rfl rfl ?_) | refine gi_plain ?_))
        refine r_append hT rfl rfl rfl rfl rfl rfl rfl rfl rfl rfl rfl rfl rfl rfl rfl rfl rfl ?_ ?_
        · simp only [List.length_cons, List.length_nil, List.length_map, maxLen]
          constructor
          · omega
          · show _ * 40 ≤ _
            omega
        (repeat (first | refine r_end ?_ | (refine r_op ?_; refine r_pure hT rfl rfl rfl rfl rfl rfl ?_) | refine gi_inBlock ?_))
        refine next (k', t ++ [b]) _ _ _ ⟨hstep.symm, by simp only [List.length_append, List.length_cons, List.length_nil]; omega, ?_, ?_⟩ (by simp only; omega) ⟨rfl, rfl, rfl, rfl, rfl, trivial⟩ ⟨rfl, rfl, by rw [cut_mapC], ?_, trivial⟩ ⟨eNd_ap t [b], trivial⟩
        · simp only [List.map_append, List.map_cons, List.map_nil]
          rw [List.nodup_append]
          refine ⟨hnd, by simp, ?_⟩
          intro x hx y hy e
          rw [List.mem_singleton.1 hy] at e
          obtain ⟨n, hn, rfl⟩ := List.mem_map.1 hx
          exact placeL_none hb1 n hn e
        · intro x hx
          simp only [List.map_append, List.map_cons, List.map_nil, List.mem_append, List.mem_singleton] at hx
          rcases hx with hx | rfl
          · exact hsub x hx
          · obtain ⟨e, he1, he2⟩ := hb2
            obtain ⟨y, hy, hyr⟩ := List.any_eq_true.1 (hto e he1)
            rw [he2, ← of_decide_eq_true hyr]
            exact hy
        · show hMp (pmap 0 (t ++ [b])) = some (4294967295, cutLP (noK 0) (mapC (updM b.v.k b.v.i (.int .i64 ((t.map Nd.row).length : Nat)) (pmap 0 t))))
          rw [cut_mapC, List.length_map, pmap_upd hb1]
end Go.Proofs.Ytmocggibcniggaa.Kt
namespace Go.Proofs.Ytmocggibcniggaa.Kt
open Go Kw Go.Proofs
theorem kind_at {t : List Nd} (ht : ∀ n ∈ t, KindOk n.v) {n : Nd} (h : GoodN t n) : KindOk (t.getD n.p.toNat zNd).v := by
  obtain ⟨p, hp, hl⟩ := h
  rw [hp, Int.toNat_natCast, List.getD_eq_getElem?_getD, List.getElem?_eq_getElem hl]
  exact ht _ (List.getElem_mem hl)
theorem betr_soon {t : List Nd} {a b : Nd} (ht : ∀ n ∈ t, KindOk n.v) (ha : GoodN t a) (hb : GoodN t b) (ka : KindOk a.v) (kb : KindOk b.v) : betr t a b = soon t a b := by
  unfold betr soon
  exact bt_soon ka kb (kind_at ht ha) (kind_at ht hb) (fun e => by rw [e])
theorem cand_v {t : List Nd} {e : Eg} {n : Nd} (h : candL t e = some n) : n.v = e.t := by
  unfold candL at h
  split at h
  · cases h; rfl
  · cases h
theorem best_same {t : List Nd} (ht : ∀ n ∈ t, KindOk n.v) : ∀ {es : List Eg} {m : Option Nd}, (∀ e ∈ es, KindOk e.t) → (∀ b, m = some b → GoodN t b ∧ KindOk b.v) → es.foldl (stepT betr t) m = es.foldl (stepT soon t) m
  | [], m, _, _ => rfl
  | e :: es, m, he, hm => by
    have hs : stepT betr t m e = stepT soon t m e := by
      unfold stepT
      cases hc : candL t e with
      | none => rfl
      | some n =>
        cases m with
        | none => rfl
        | some b =>
          obtain ⟨g1, g2⟩ := hm b rfl
          simp only
          rw [betr_soon ht (cand_good hc) g1 (by rw [cand_v hc]; exact he e (List.mem_cons_self ..)) g2]
    rw [List.foldl_cons, List.foldl_cons, hs]
    refine best_same ht (fun e' h => he e' (List.mem_cons_of_mem _ h)) (fun b hb => ⟨step_good (fun b h => (hm b h).1) b hb, ?_⟩)
    unfold stepT at hb
    split at hb
    · exact (hm b hb).2
    · rename_i n hn
      have kn : KindOk n.v := by rw [cand_v hn]; exact he e (List.mem_cons_self ..)
      split at hb
      · cases hb; exact kn
      · rename_i b'
        split at hb
        · cases hb; exact kn
        · exact (hm b hb).2
theorem treeN_same {es : List Eg} (he : ∀ e ∈ es, KindOk e.t) : ∀ (k : Nat) (t : List Nd), (∀ n ∈ t, KindOk n.v) → treeN betr es k t = treeN soon es k t
  | 0, t, _ => rfl
  | k + 1, t, ht => by
    have hb : bestL betr t es = bestL soon t es := best_same ht he (fun b h => by cases h)
    cases hs : bestL soon t es with
    | none => rw [treeN_none hs, treeN_none (hb.trans hs)]
    | some n =>
      rw [treeN_some hs, treeN_some (hb.trans hs)]
      refine treeN_same he k (t ++ [n]) (fun x hx => ?_)
      rcases List.mem_append.1 hx with hx | hx
      · exact ht x hx
      · rw [List.mem_singleton.1 hx]
        obtain ⟨_, e, h1, h2⟩ := best_new hs
        rw [h2]; exact he e h1
theorem prg_ref {m : Mp} {root : Vt} (hv : ∀ v ∈ m.vs, KindOk v) (he : ∀ e ∈ m.es, KindOk e.t) : prgTree m root = refTree m root := by
  unfold prgTree refTree
  cases hr : m.vs.any (fun x => decide (x = root)) with
  | false => rfl
  | true =>
    refine treeN_same he _ _ (fun n hn => ?_)
    rw [List.mem_singleton.1 hn]
    obtain ⟨y, hy, hyr⟩ := List.any_eq_true.1 hr
    show KindOk root
    rw [← of_decide_eq_true hyr]
    exact hv y hy
end Go.Proofs.Ytmocggibcniggaa.Kt
namespace Go.Proofs.Ytmocggibcniggaa.Kt
open Go Kw Go.Proofs
theorem mem_ins {v x : Vt} : ∀ {l : List Vt}, x ∈ insV l v ↔ x = v ∨ x ∈ l
  | [] => by unfold insV; simp
  | y :: l => by
    unfold insV
    split
    · rw [List.mem_cons, mem_ins, List.mem_cons]
      constructor
      · rintro (h | h | h)
        · exact .inr (.inl h)
        · exact .inl h
        · exact .inr (.inr h)
      · rintro (h | h | h)
        · exact .inr (.inl h)
        · exact .inl h
        · exact .inr (.inr h)
    · split
      · rename_i h; subst h
        exact ⟨fun h => .inr h, fun h => h.elim (fun e => e ▸ List.mem_cons_self ..) id⟩
      · rw [List.mem_cons]
theorem vS_mem {m : List Vt} {x v : Vt} {y : Ls} : x ∈ vS m y ↔ x ∈ m ∨ (y.age < 3600 ∧ ((y.kind = 1 ∧ y.id = y.adv ∧ x = ⟨1, y.id⟩) ∨ (y.kind = 2 ∧ x = ⟨2, y.id⟩))) := by
  unfold vS
  rw [leB_eq]
  by_cases h : (3600 : Int) ≤ y.age
  · rw [decide_eq_true h]
    exact ⟨.inl, fun k => k.elim id (fun k => absurd k.1 (by omega))⟩
  · rw [decide_eq_false h]
    have ha : y.age < 3600 := by omega
    simp only
    unfold vS2 vS1
    rw [eqB_eq, eqB_eq, eqB_eq]
    by_cases h1 : y.kind = 1
    · by_cases h2 : y.id = y.adv
      · simp [h1, ← h2, ha, mem_ins, or_comm]
      · have e2 : (y.id == y.adv) = false := by simpa using h2
        simp [h1, h2, ha, e2]
    · have e1 : (y.kind == 1) = false := by simpa using h1
      by_cases h2 : y.kind = 2
      · simp [h2, ha, mem_ins, or_comm]
      · have e2 : (y.kind == 2) = false := by simpa using h2
        simp [h1, h2, ha, e1, e2]
theorem vfold_mem {x : Vt} : ∀ {l : List Ls} {m : List Vt}, x ∈ l.foldl vS m ↔ x ∈ m ∨ ∃ y ∈ l, y.age < 3600 ∧ ((y.kind = 1 ∧ y.id = y.adv ∧ x = ⟨1, y.id⟩) ∨ (y.kind = 2 ∧ x = ⟨2, y.id⟩))
  | [], m => by simp
  | y :: l, m => by
    rw [List.foldl_cons, vfold_mem, vS_mem (v := x)]
    simp only [List.mem_cons, exists_eq_or_imp, or_assoc]
theorem verts_mem {x : Vt} {l : List Ls} : x ∈ vertsL l ↔ ∃ y ∈ l, y.age < 3600 ∧ ((y.kind = 1 ∧ y.id = y.adv ∧ x = ⟨1, y.id⟩) ∨ (y.kind = 2 ∧ x = ⟨2, y.id⟩)) := by
  unfold vertsL
  rw [vfold_mem]
  simp
theorem verts_kind {x : Vt} {l : List Ls} (h : x ∈ vertsL l) : KindOk x := by
  obtain ⟨y, _, _, (⟨_, _, rfl⟩ | ⟨_, rfl⟩)⟩ := verts_mem.1 h
  · exact .inl rfl
  · exact .inr rfl
end Go.Proofs.Ytmocggibcniggaa.Kt
namespace Go.Proofs.Ytmocggibcniggaa.Kt
open Go Kw Go.Proofs
theorem find_is {l : List Ls} {v : Vt} {x : Ls} (h : findL l v = some x) : x ∈ l ∧ x.age < 3600 ∧ isV v x = true ∧ x.id = v.i := by
  have : ∀ (l : List Ls) (m : Option Ls), l.foldl (fdS v) m = some x → m = some x ∨ (x ∈ l ∧ x.age < 3600 ∧ isV v x = true ∧ x.id = v.i) := by
    intro l
    induction l with
    | nil => intro m h; exact .inl h
    | cons y l ih =>
      intro m h
      rw [List.foldl_cons] at h
      rcases ih _ h with h | h
      · unfold fdS at h
        split at h
        · rename_i hc
          cases h
          rw [Bool.and_eq_true, Bool.and_eq_true, Bool.and_eq_true] at hc
          exact .inr ⟨List.mem_cons_self .., of_decide_eq_true hc.1, hc.2.1, of_decide_eq_true hc.2.2.1⟩
        · exact .inl h
      · exact .inr ⟨List.mem_cons_of_mem _ h.1, h.2⟩
  rcases this l none h with h | h
  · cases h
  · exact h
theorem find_vert {l : List Ls} {v : Vt} (h : (findL l v).isSome = true) : v ∈ vertsL l := by
  obtain ⟨x, hx⟩ := Option.isSome_iff_exists.1 h
  obtain ⟨h1, h2, h3, h4⟩ := find_is hx
  rw [verts_mem]
  refine ⟨x, h1, h2, ?_⟩
  unfold isV at h3
  rw [Bool.or_eq_true, Bool.and_eq_true, Bool.and_eq_true, Bool.and_eq_true] at h3
  rcases h3 with ⟨a, b, c⟩ | ⟨a, b⟩
  · refine .inl ⟨of_decide_eq_true b, of_decide_eq_true c, ?_⟩
    cases v; simp only [Vt.mk.injEq]; exact ⟨of_decide_eq_true a, h4.symm⟩
  · refine .inr ⟨of_decide_eq_true b, ?_⟩
    cases v; simp only [Vt.mk.injEq]; exact ⟨of_decide_eq_true a, h4.symm⟩
theorem edK1_to {l : List Ls} {v : Vt} {k : Lk} {e : Eg} (h : e ∈ edK1 l v k) : e.t ∈ vertsL l ∧ e.f = v := by
  unfold edK1 at h
  split at h
  · split at h
    · rename_i hc
      rw [Bool.and_eq_true] at hc
      rw [List.mem_singleton.1 h]
      exact ⟨find_vert hc.1, rfl⟩
    · cases h
  · cases h
theorem edK2_to {l : List Ls} {v : Vt} {k : Lk} {e : Eg} (h : e ∈ edK2 l v k) : e.t ∈ vertsL l ∧ e.f = v := by
  unfold edK2 at h
  split at h
  · split at h
    · rename_i hc
      rw [Bool.and_eq_true] at hc
      rw [List.mem_singleton.1 h]
      exact ⟨find_vert hc.1, rfl⟩
    · cases h
  · cases h
theorem edR_to {l : List Ls} {v : Vt} {p : List Int} {r : Int} {e : Eg} (h : e ∈ edR l v p r) : e.t ∈ vertsL l ∧ e.f = v := by
  unfold edR at h
  split at h
  · cases h
  · split at h
    · rename_i hc
      rw [Bool.and_eq_true] at hc
      rw [List.mem_singleton.1 h]
      exact ⟨find_vert hc.1, rfl⟩
    · cases h
theorem edRs_to {l : List Ls} {v : Vt} {rt : List Int} {e : Eg} : ∀ {j : Nat}, e ∈ edRs l v rt j → e.t ∈ vertsL l ∧ e.f = v
  | 0, h => by cases h
  | j + 1, h => by
    unfold edRs at h
    rcases List.mem_append.1 h with h | h
    · exact edRs_to h
    · split at h
      · exact edR_to h
      · cases h
theorem from_to {l : List Ls} {v : Vt} {e : Eg} (h : e ∈ fromL l v) : e.t ∈ vertsL l ∧ e.f = v := by
  unfold fromL at h
  rcases List.mem_append.1 h with h | h
  · obtain ⟨k, _, hk⟩ := List.mem_flatMap.1 h
    rcases List.mem_append.1 hk with hk | hk
    · exact edK1_to hk
    · exact edK2_to hk
  · exact edRs_to h
theorem map_to {l : List Ls} {e : Eg} (h : e ∈ (mapL l).es) : e.t ∈ (mapL l).vs ∧ e.f ∈ (mapL l).vs := by
  obtain ⟨v, hv, he⟩ := List.mem_flatMap.1 h
  obtain ⟨h1, h2⟩ := from_to he
  exact ⟨h1, by rw [h2]; exact hv⟩
theorem map_same (l : List Ls) (root : Vt) : prgTree (mapL l) root = refTree (mapL l) root :=
  prg_ref (fun _ h => verts_kind h) (fun _ h => verts_kind (map_to h).1)
end Go.Proofs.Ytmocggibcniggaa.Kt
namespace Go.Proofs.Ytmocggibcniggaa.Kt
open Go Kw Go.Proofs
attribute [local irreducible] Kw.GI Kw.GR Kw.FnR Kw.FnX
set_option maxHeartbeats 8000000
set_option maxRecDepth 100000
abbrev R1v (x : AV) (v : Vt) : AV → Hp → Sp → Prop := fun r H S => r = x ∧ H = [hV v] ∧ S = []
theorem p1v {x : AV} {v : Vt} (hx : stA x = true) : ∀ r H1 S1, (r = x ∧ H1 = [hV v] ∧ S1 = []) → stA r = true ∧ StH H1 ∧ StS S1 := by
  rintro r H S ⟨rfl, rfl, rfl⟩
  refine ⟨hx, fun e he t cs hs => ?_, fun e he => by cases he⟩
  simp only [List.mem_cons, List.not_mem_nil, or_false] at he
  rcases he with rfl
  cases hs; rfl
theorem Place1_ok (n : Nd) (v : Vt) : FnX Try.prog 85 [n.av, .box 0 0] [hV v] [] (R1v (Bo (decide (n.v = v))) v) := by
  refine fnX_intro (T := TT) (n := 8) Try.func85 rfl rfl rfl (fun w X Z Y B => ?_)
  (repeat (first | (refine r_end ?_) | (refine r_op ?_; first | refine r_pure hT rfl rfl rfl rfl rfl rfl ?_ | refine r_load hT rfl rfl rfl rfl rfl rfl rfl rfl rfl ?_ | refine r_box rfl rfl rfl rfl rfl rfl rfl rfl rfl ?_ | refine r_store hT rfl rfl rfl rfl rfl rfl rfl rfl rfl rfl ?_ | refine r_off rfl rfl rfl rfl rfl ?_ | refine r_alloc hT rfl rfl rfl rfl rfl rfl rfl rfl rfl ?_ | refine r_lit hT rfl rfl rfl rfl rfl rfl rfl rfl rfl rfl rfl rfl rfl ?_ | refine r_off0 rfl rfl rfl rfl ?_ | refine r_storeO hT rfl rfl rfl rfl rfl rfl rfl rfl rfl rfl rfl ?_) | (refine gi_seq ?_) | (refine gi_plain ?_) | (refine gi_skip ?_) | (refine gi_block ?_) | (refine gi_inBlock ?_) | (refine gi_exit rfl ?_) | (refine gi_cnd ?_; first | refine gi_true rfl ?_ | refine gi_false rfl ?_) | (refine gi_label ?_)))
  refine r_eqT _ rfl rfl rfl rfl rfl rfl rfl rfl rfl y_flat_Vt ?_
  (repeat (first | (refine r_end ?_) | (refine r_op ?_; first | refine r_pure hT rfl rfl rfl rfl rfl rfl ?_ | refine r_load hT rfl rfl rfl rfl rfl rfl rfl rfl rfl ?_ | refine r_box rfl rfl rfl rfl rfl rfl rfl rfl rfl ?_ | refine r_store hT rfl rfl rfl rfl rfl rfl rfl rfl rfl rfl ?_ | refine r_off rfl rfl rfl rfl rfl ?_ | refine r_alloc hT rfl rfl rfl rfl rfl rfl rfl rfl rfl ?_ | refine r_lit hT rfl rfl rfl rfl rfl rfl rfl rfl rfl rfl rfl rfl rfl ?_ | refine r_off0 rfl rfl rfl rfl ?_ | refine r_storeO hT rfl rfl rfl rfl rfl rfl rfl rfl rfl rfl rfl ?_) | (refine gi_seq ?_) | (refine gi_plain ?_) | (refine gi_skip ?_) | (refine gi_block ?_) | (refine gi_inBlock ?_) | (refine gi_exit rfl ?_) | (refine gi_cnd ?_; first | refine gi_true rfl ?_ | refine gi_false rfl ?_) | (refine gi_label ?_)))
  refine gi_retX hT Try.func85 rfl [0] [] rfl rfl rfl rfl rfl rfl rfl rfl ?_
  exact ⟨congrArg Bo (veq_eq n.v v), rfl, rfl⟩
theorem IndexN_ok (t : List Nd) (v : Vt) (hl : t.length < 1000000) : FnX Try.prog 84 [rsNd t, .fn 85 [.box 0 0]] [hV v] [] (R1v (I (placeI (placeL t v))) v) := by
  refine fnX_intro (T := TT) (n := 19) Try.func84 rfl rfl rfl (fun w X Z Y B => ?_)
  (repeat (first | (refine r_end ?_) | (refine r_op ?_; first | refine r_pure hT rfl rfl rfl rfl rfl rfl ?_ | refine r_load hT rfl rfl rfl rfl rfl rfl rfl rfl rfl ?_ | refine r_box rfl rfl rfl rfl rfl rfl rfl rfl rfl ?_ | refine r_store hT rfl rfl rfl rfl rfl rfl rfl rfl rfl rfl ?_ | refine r_off rfl rfl rfl rfl rfl ?_ | refine r_alloc hT rfl rfl rfl rfl rfl rfl rfl rfl rfl ?_ | refine r_lit hT rfl rfl rfl rfl rfl rfl rfl rfl rfl rfl rfl rfl rfl ?_ | refine r_off0 rfl rfl rfl rfl ?_ | refine r_storeO hT rfl rfl rfl rfl rfl rfl rfl rfl rfl rfl rfl ?_) | (refine gi_seq ?_) | (refine gi_plain ?_) | (refine gi_skip ?_) | (refine gi_block ?_) | (refine gi_inBlock ?_) | (refine gi_exit rfl ?_) | (refine gi_cnd ?_; first | refine gi_true rfl ?_ | refine gi_false rfl ?_) | (refine gi_label ?_)))
  refine gi_loop (σ := Nat) (fun s => [(8, I s), (7, I t.length), (1, .fn 85 [.box 0 0]), (0, rsNd t), (4, I 0)]) (fun _ => [hV v]) (fun _ => []) (fun s => s ≤ t.length ∧ ∀ i, i < s → ∀ m, t[i]? = some m → m.v ≠ v) (fun s => t.length - s) 0 ⟨Nat.zero_le _, fun i h => absurd h (Nat.not_lt_zero _)⟩ ⟨rfl, by show some (I ((t.map Nd.row).length : Nat)) = _; rw [List.length_map], rfl, rfl, rfl, trivial⟩ ⟨rfl, trivial⟩ trivial (fun _ => rfl) (fun j hj next => ?_)
  obtain ⟨hj, hn⟩ := hj
  (repeat (first | (refine r_end ?_) | (refine r_op ?_; first | refine r_pure hT rfl rfl rfl rfl rfl rfl ?_ | refine r_load hT rfl rfl rfl rfl rfl rfl rfl rfl rfl ?_ | refine r_box rfl rfl rfl rfl rfl rfl rfl rfl rfl ?_ | refine r_store hT rfl rfl rfl rfl rfl rfl rfl rfl rfl rfl ?_ | refine r_off rfl rfl rfl rfl rfl ?_ | refine r_alloc hT rfl rfl rfl rfl rfl rfl rfl rfl rfl ?_ | refine r_lit hT rfl rfl rfl rfl rfl rfl rfl rfl rfl rfl rfl rfl rfl ?_ | refine r_off0 rfl rfl rfl rfl ?_ | refine r_storeO hT rfl rfl rfl rfl rfl rfl rfl rfl rfl rfl rfl ?_) | (refine gi_seq ?_) | (refine gi_plain ?_) | (refine gi_skip ?_) | (refine gi_block ?_) | (refine gi_inBlock ?_) | (refine gi_exit rfl ?_) | (refine gi_cnd ?_; first | refine gi_true rfl ?_ | refine gi_false rfl ?_) | (refine gi_label ?_)))
  refine gi_lt rfl (fun h3 => ?_) (fun h3 => ?_)
  · have hjl : j < t.length := by omega
    obtain ⟨x, hx⟩ : ∃ x, t[j]? = some x := ⟨_, List.getElem?_eq_getElem hjl⟩
    (repeat (first | (refine r_end ?_) | (refine r_op ?_; first | refine r_pure hT rfl rfl rfl rfl rfl rfl ?_ | refine r_load hT rfl rfl rfl rfl rfl rfl rfl rfl rfl ?_ | refine r_box rfl rfl rfl rfl rfl rfl rfl rfl rfl ?_ | refine r_store hT rfl rfl rfl rfl rfl rfl rfl rfl rfl rfl ?_ | refine r_off rfl rfl rfl rfl rfl ?_ | refine r_alloc hT rfl rfl rfl rfl rfl rfl rfl rfl rfl ?_ | refine r_lit hT rfl rfl rfl rfl rfl rfl rfl rfl rfl rfl rfl rfl rfl ?_ | refine r_off0 rfl rfl rfl rfl ?_ | refine r_storeO hT rfl rfl rfl rfl rfl rfl rfl rfl rfl rfl rfl ?_) | (refine gi_seq ?_) | (refine gi_plain ?_) | (refine gi_skip ?_) | (refine gi_block ?_) | (refine gi_inBlock ?_) | (refine gi_exit rfl ?_) | (refine gi_cnd ?_; first | refine gi_true rfl ?_ | refine gi_false rfl ?_) | (refine gi_label ?_)))
    refine r_idx (row := x.row) hT rfl rfl rfl rfl rfl rfl rfl rfl rfl rfl rfl rfl (by (try simp only); omega) (by simp [hx]) ?_
    (repeat (first | (refine r_end ?_) | (refine r_op ?_; first | refine r_pure hT rfl rfl rfl rfl rfl rfl ?_ | refine r_load hT rfl rfl rfl rfl rfl rfl rfl rfl rfl ?_ | refine r_box rfl rfl rfl rfl rfl rfl rfl rfl rfl ?_ | refine r_store hT rfl rfl rfl rfl rfl rfl rfl rfl rfl rfl ?_ | refine r_off rfl rfl rfl rfl rfl ?_ | refine r_alloc hT rfl rfl rfl rfl rfl rfl rfl rfl rfl ?_ | refine r_lit hT rfl rfl rfl rfl rfl rfl rfl rfl rfl rfl rfl rfl rfl ?_ | refine r_off0 rfl rfl rfl rfl ?_ | refine r_storeO hT rfl rfl rfl rfl rfl rfl rfl rfl rfl rfl rfl ?_) | (refine gi_seq ?_) | (refine gi_plain ?_) | (refine gi_skip ?_) | (refine gi_block ?_) | (refine gi_inBlock ?_) | (refine gi_exit rfl ?_) | (refine gi_cnd ?_; first | refine gi_true rfl ?_ | refine gi_false rfl ?_) | (refine gi_label ?_)))
    refine r_callX [0] [] (Place1_ok x v) rfl rfl rfl rfl rfl rfl Try.func85 rfl rfl rfl rfl rfl rfl rfl (p1v rfl) ?_
    rintro r H1 S1 ⟨rfl, rfl, rfl⟩
    (repeat (first | (refine r_end ?_) | (refine r_op ?_; first | refine r_pure hT rfl rfl rfl rfl rfl rfl ?_ | refine r_load hT rfl rfl rfl rfl rfl rfl rfl rfl rfl ?_ | refine r_box rfl rfl rfl rfl rfl rfl rfl rfl rfl ?_ | refine r_store hT rfl rfl rfl rfl rfl rfl rfl rfl rfl rfl ?_ | refine r_off rfl rfl rfl rfl rfl ?_ | refine r_alloc hT rfl rfl rfl rfl rfl rfl rfl rfl rfl ?_ | refine r_lit hT rfl rfl rfl rfl rfl rfl rfl rfl rfl rfl rfl rfl rfl ?_ | refine r_off0 rfl rfl rfl rfl ?_ | refine r_storeO hT rfl rfl rfl rfl rfl rfl rfl rfl rfl rfl rfl ?_) | (refine gi_seq ?_) | (refine gi_plain ?_) | (refine gi_skip ?_) | (refine gi_block ?_) | (refine gi_inBlock ?_) | (refine gi_exit rfl ?_) | (refine gi_cnd ?_; first | refine gi_true rfl ?_ | refine gi_false rfl ?_) | (refine gi_label ?_)))
    refine gi_cond rfl (fun h4 => ?_) (fun h4 => ?_)
    · have hp := placeL_at hn hx (of_decide_eq_true h4)
      (repeat (first | (refine r_end ?_) | (refine r_op ?_; first | refine r_pure hT rfl rfl rfl rfl rfl rfl ?_ | refine r_load hT rfl rfl rfl rfl rfl rfl rfl rfl rfl ?_ | refine r_box rfl rfl rfl rfl rfl rfl rfl rfl rfl ?_ | refine r_store hT rfl rfl rfl rfl rfl rfl rfl rfl rfl rfl ?_ | refine r_off rfl rfl rfl rfl rfl ?_ | refine r_alloc hT rfl rfl rfl rfl rfl rfl rfl rfl rfl ?_ | refine r_lit hT rfl rfl rfl rfl rfl rfl rfl rfl rfl rfl rfl rfl rfl ?_ | refine r_off0 rfl rfl rfl rfl ?_ | refine r_storeO hT rfl rfl rfl rfl rfl rfl rfl rfl rfl rfl rfl ?_) | (refine gi_seq ?_) | (refine gi_plain ?_) | (refine gi_skip ?_) | (refine gi_block ?_) | (refine gi_inBlock ?_) | (refine gi_exit rfl ?_) | (refine gi_cnd ?_; first | refine gi_true rfl ?_ | refine gi_false rfl ?_) | (refine gi_label ?_)))
      refine gi_retX hT Try.func84 rfl [0] [] rfl rfl rfl rfl rfl rfl rfl rfl ?_
      exact ⟨by rw [hp]; rfl, rfl, rfl⟩
    · have hne := of_decide_eq_false h4
      (repeat (first | (refine r_end ?_) | (refine r_op ?_; first | refine r_pure hT rfl rfl rfl rfl rfl rfl ?_ | refine r_load hT rfl rfl rfl rfl rfl rfl rfl rfl rfl ?_ | refine r_box rfl rfl rfl rfl rfl rfl rfl rfl rfl ?_ | refine r_store hT rfl rfl rfl rfl rfl rfl rfl rfl rfl rfl ?_ | refine r_off rfl rfl rfl rfl rfl ?_ | refine r_alloc hT rfl rfl rfl rfl rfl rfl rfl rfl rfl ?_ | refine r_lit hT rfl rfl rfl rfl rfl rfl rfl rfl rfl rfl rfl rfl rfl ?_ | refine r_off0 rfl rfl rfl rfl ?_ | refine r_storeO hT rfl rfl rfl rfl rfl rfl rfl rfl rfl rfl rfl ?_) | (refine gi_seq ?_) | (refine gi_plain ?_) | (refine gi_skip ?_) | (refine gi_block ?_) | (refine gi_inBlock ?_) | (refine gi_exit rfl ?_) | (refine gi_cnd ?_; first | refine gi_true rfl ?_ | refine gi_false rfl ?_) | (refine gi_label ?_)))
      refine next (j + 1) _ _ _ ⟨hjl, fun i hi m hm => ?_⟩ (by omega) ⟨?_, rfl, rfl, rfl, rfl, trivial⟩ ⟨rfl, trivial⟩ trivial
      · rcases Nat.lt_succ_iff_lt_or_eq.1 hi with hi | rfl
        · exact hn i hi m hm
        · rw [hx] at hm; cases hm; exact hne
      · show some (I (wr .i64 ((j : Int) + 1))) = _
        rw [wr_i64 (by omega) (by omega)]
        simp
  · have hp : placeL t v = none := placeL_no (fun n hm => by
      obtain ⟨i, hi⟩ := List.mem_iff_getElem?.1 hm
      exact hn i (by have := (List.getElem?_eq_some_iff.1 hi).1; omega) n hi)
    (repeat (first | (refine r_end ?_) | (refine r_op ?_; first | refine r_pure hT rfl rfl rfl rfl rfl rfl ?_ | refine r_load hT rfl rfl rfl rfl rfl rfl rfl rfl rfl ?_ | refine r_box rfl rfl rfl rfl rfl rfl rfl rfl rfl ?_ | refine r_store hT rfl rfl rfl rfl rfl rfl rfl rfl rfl rfl ?_ | refine r_off rfl rfl rfl rfl rfl ?_ | refine r_alloc hT rfl rfl rfl rfl rfl rfl rfl rfl rfl ?_ | refine r_lit hT rfl rfl rfl rfl rfl rfl rfl rfl rfl rfl rfl rfl rfl ?_ | refine r_off0 rfl rfl rfl rfl ?_ | refine r_storeO hT rfl rfl rfl rfl rfl rfl rfl rfl rfl rfl rfl ?_) | (refine gi_seq ?_) | (refine gi_plain ?_) | (refine gi_skip ?_) | (refine gi_block ?_) | (refine gi_inBlock ?_) | (refine gi_exit rfl ?_) | (refine gi_cnd ?_; first | refine gi_true rfl ?_ | refine gi_false rfl ?_) | (refine gi_label ?_)))
    refine gi_retX hT Try.func84 rfl [0] [] rfl rfl rfl rfl rfl rfl rfl rfl ?_
    exact ⟨by rw [hp]; rfl, rfl, rfl⟩
theorem pPlace_ok (t : List Nd) (v : Vt) (hl : t.length < 1000000) : FnR Try.prog 61 [rsNd t, v.av] (RI (placeI (placeL t v))) := by
  refine fnR_intro (T := TT) (n := 8) Try.func61 rfl rfl rfl (fun w Z => ?_)
  (repeat (first | (refine r_end ?_) | (refine r_op ?_; first | refine r_pure hT rfl rfl rfl rfl rfl rfl ?_ | refine r_load hT rfl rfl rfl rfl rfl rfl rfl rfl rfl ?_ | refine r_box rfl rfl rfl rfl rfl rfl rfl rfl rfl ?_ | refine r_store hT rfl rfl rfl rfl rfl rfl rfl rfl rfl rfl ?_ | refine r_off rfl rfl rfl rfl rfl ?_ | refine r_alloc hT rfl rfl rfl rfl rfl rfl rfl rfl rfl ?_ | refine r_lit hT rfl rfl rfl rfl rfl rfl rfl rfl rfl rfl rfl rfl rfl ?_ | refine r_off0 rfl rfl rfl rfl ?_ | refine r_storeO hT rfl rfl rfl rfl rfl rfl rfl rfl rfl rfl rfl ?_) | (refine gi_seq ?_) | (refine gi_plain ?_) | (refine gi_skip ?_) | (refine gi_block ?_) | (refine gi_inBlock ?_) | (refine gi_exit rfl ?_) | (refine gi_cnd ?_; first | refine gi_true rfl ?_ | refine gi_false rfl ?_) | (refine gi_label ?_)))
  refine r_callX [0] [] (IndexN_ok t v hl) rfl rfl rfl rfl rfl rfl Try.func84 rfl rfl rfl rfl rfl rfl rfl (p1v rfl) ?_
  rintro r H1 S1 ⟨rfl, rfl, rfl⟩
  (repeat (first | (refine r_end ?_) | (refine r_op ?_; first | refine r_pure hT rfl rfl rfl rfl rfl rfl ?_ | refine r_load hT rfl rfl rfl rfl rfl rfl rfl rfl rfl ?_ | refine r_box rfl rfl rfl rfl rfl rfl rfl rfl rfl ?_ | refine r_store hT rfl rfl rfl rfl rfl rfl rfl rfl rfl rfl ?_ | refine r_off rfl rfl rfl rfl rfl ?_ | refine r_alloc hT rfl rfl rfl rfl rfl rfl rfl rfl rfl ?_ | refine r_lit hT rfl rfl rfl rfl rfl rfl rfl rfl rfl rfl rfl rfl rfl ?_ | refine r_off0 rfl rfl rfl rfl ?_ | refine r_storeO hT rfl rfl rfl rfl rfl rfl rfl rfl rfl rfl rfl ?_) | (refine gi_seq ?_) | (refine gi_plain ?_) | (refine gi_skip ?_) | (refine gi_block ?_) | (refine gi_inBlock ?_) | (refine gi_exit rfl ?_) | (refine gi_cnd ?_; first | refine gi_true rfl ?_ | refine gi_false rfl ?_) | (refine gi_label ?_)))
  refine gi_retW hT Try.func61 rfl rfl [] rfl rfl rfl rfl ?_
  exact ⟨rfl, rfl⟩
end Go.Proofs.Ytmocggibcniggaa.Kt
namespace Go.Proofs.Ytmocggibcniggaa.Kt
open Go Kw Go.Proofs
attribute [local irreducible] Kw.GI Kw.GR Kw.FnR Kw.FnX
set_option maxHeartbeats 8000000
set_option maxRecDepth 100000
theorem y_self_Nd : selfT Try.prog 58 5 = true := by kernel_rfl
/-- Two lists of the same Nodes are one. -/
theorem Nodes_ok (t : List Nd) (hl : t.length < 1000000) : FnR Try.prog 21 [rsNd t, rsNd t] (RB true) := by
  refine fnR_intro (T := TT) (n := 26) Try.func21 rfl rfl rfl (fun w Z => ?_)
  (repeat (first | refine r_end ?_ | (refine r_op ?_; refine r_pure hT rfl rfl rfl rfl rfl rfl ?_) | refine gi_seq ?_ | refine gi_plain ?_))
  refine gi_known (d := 10) (b := false) rfl (by rw [notB_eq, eqB_eq]; simp) ?_
  (repeat (first | refine r_end ?_ | (refine r_op ?_; refine r_pure hT rfl rfl rfl rfl rfl rfl ?_) | refine gi_seq ?_ | refine gi_plain ?_ | refine gi_skip ?_ | refine gi_block ?_ | (refine gi_cnd ?_; first | refine gi_true rfl ?_ | refine gi_false rfl ?_)))
  refine gi_loop (σ := Nat) (fun j => [(5, I j), (1, rsNd t), (0, rsNd t)]) (fun _ => []) (fun _ => []) (fun j => j ≤ t.length) (fun j => t.length - j) 0 (Nat.zero_le _) ⟨rfl, rfl, rfl, trivial⟩ trivial trivial (fun _ => rfl) (fun j hj next => ?_)
  have hj : j ≤ t.length := hj
  (repeat (first | refine r_end ?_ | (refine r_op ?_; refine r_pure hT rfl rfl rfl rfl rfl rfl ?_) | refine gi_seq ?_ | refine gi_plain ?_))
  refine gi_lt (q := ((t.map Nd.row).length : Int)) rfl (fun h3 => ?_) (fun h3 => ?_)
  · rw [List.length_map] at h3
    have hjl : j < t.length := by omega
    obtain ⟨x, hx⟩ : ∃ x, t[j]? = some x := ⟨_, List.getElem?_eq_getElem hjl⟩
    (repeat (first | refine gi_seq ?_ | refine gi_skip ?_ | refine gi_block ?_))
    refine gi_drawM [] [(0, .p), (1, .p), (2, .p), (4, .p), (5, .p), (6, .p), (3, .t), (7, .t), (8, .p)] [0, 0, 3, 4, 0, 0, 48, 64, 136] [0, 0, 3, 4, 0, 0, 48, 64, 136] hm rfl (by kernel_rfl) (fun w1 K => ?_)
    (repeat ((refine r_op ?_; refine r_pure hT rfl rfl rfl rfl rfl rfl ?_)))
    refine r_idx (row := x.row) hT rfl rfl rfl rfl rfl rfl rfl rfl rfl rfl rfl rfl (by omega) (by simp [hx]) ?_
    (repeat ((refine r_op ?_; refine r_pure hT rfl rfl rfl rfl rfl rfl ?_)))
    refine r_idx (row := x.row) hT rfl rfl rfl rfl rfl rfl rfl rfl rfl rfl rfl rfl (by omega) (by simp [hx]) ?_
    (repeat ((refine r_op ?_; refine r_load hT rfl rfl rfl rfl rfl rfl rfl rfl rfl ?_)))
    refine r_neSelf 5 rfl rfl rfl rfl rfl rfl rfl rfl rfl rfl y_self_Nd ?_
    (repeat (first | refine r_end ?_ | (refine r_op ?_; refine r_pure hT rfl rfl rfl rfl rfl rfl ?_) | refine gi_plain ?_ | refine gi_skip ?_ | refine gi_inBlock ?_ | (refine gi_cnd ?_; first | refine gi_true rfl ?_ | refine gi_false rfl ?_)))
    refine next (j + 1) _ _ _ hjl (by omega) ⟨?_, rfl, rfl, trivial⟩ trivial trivial
    show some (I (wr .i64 ((j : Int) + 1))) = _
    rw [wr_i64 (by omega) (by omega)]
    simp
  · (repeat (first | refine r_end ?_ | (refine r_op ?_; refine r_pure hT rfl rfl rfl rfl rfl rfl ?_) | refine gi_seq ?_ | refine gi_plain ?_ | refine gi_exit rfl ?_))
    refine gi_retW hT Try.func21 rfl rfl [] rfl rfl rfl rfl ?_
    exact ⟨rfl, rfl⟩
end Go.Proofs.Ytmocggibcniggaa.Kt
namespace Go.Proofs.Ytmocggibcniggaa.Kt
open Go Kw Go.Proofs
attribute [local irreducible] Kw.GI Kw.GR Kw.FnR Kw.FnX
set_option maxHeartbeats 8000000
set_option maxRecDepth 100000
/-! ### lists that are read -/
abbrev Ls.rowR (x : Ls) : List RV := [.v (.int .i64 x.age), .v (.int .i64 x.kind), .v (.int .i64 x.id), .v (.int .i64 x.adv), .v (.int .i64 x.seq), .v (.int .i64 x.sum), .v (.int .i64 x.len), .v (.int .i64 x.fl), .rs 4 (x.lk.map Lk.row), .v (.int .i64 x.bits), .rs 1 (x.rt.map nRow), .rs 2 (x.vt.map Vt.row)]
abbrev rsL (l : List Ls) : AV := .r (.rs 12 (l.map Ls.rowR))
theorem upLL_id {L : List (List RV)} (h : ∀ r ∈ L, upL r = r) : upLL L = L := by
  rw [upLL_map]
  conv => rhs; rw [← List.map_id L]
  exact List.map_congr_left (fun r hr => h r hr)
theorem up_lk (l : List Lk) : upLL (l.map Lk.row) = l.map Lk.row := upLL_id (fun r hr => by
  obtain ⟨x, _, rfl⟩ := List.mem_map.1 hr; rfl)
theorem up_n (l : List Int) : upLL (l.map nRow) = l.map nRow := upLL_id (fun r hr => by
  obtain ⟨x, _, rfl⟩ := List.mem_map.1 hr; rfl)
theorem up_v (l : List Vt) : upLL (l.map Vt.row) = l.map Vt.row := upLL_id (fun r hr => by
  obtain ⟨x, _, rfl⟩ := List.mem_map.1 hr; rfl)
theorem up_row (x : Ls) : upL x.rowR = x.row := by
  show [_, _, _, _, _, _, _, _, RV.fs 4 (upLL _), _, RV.fs 1 (upLL _), RV.fs 2 (upLL _)] = _
  rw [up_lk, up_n, up_v]
  rfl
theorem up_rsL (l : List Ls) : upA (rsL l) = fsL l := by
  show AV.r (.fs 12 (upLL (l.map Ls.rowR))) = _
  rw [upLL_map, List.map_map]
  congr 2
  exact List.map_congr_left (fun x _ => up_row x)
theorem up_Vt (v : Vt) : upA v.av = v.av := rfl
/-! ### the trees, as plain answers -/
theorem pl_Nd (l : List Nd) : ∀ row ∈ l.map Nd.row, ∀ x ∈ row, ∃ v, x = RV.v v := by
  intro row hr x hx
  obtain ⟨n, _, rfl⟩ := List.mem_map.1 hr
  simp only [Nd.row, List.mem_cons, List.not_mem_nil, or_false] at hx
  rcases hx with rfl | rfl | rfl | rfl | rfl <;> exact ⟨_, rfl⟩
abbrev RT1 (t : List Nd) : AV → Sp → Prop := fun r S => r = .sl 0 ∧ S = [eNd t]
theorem pT1 {l : List Nd} : ∀ r S1, (r = .sl 0 ∧ S1 = [eNd l]) → plainA r = true ∧ PlainS S1 := by
  rintro r S ⟨rfl, rfl⟩
  refine ⟨rfl, fun e he s hs => ?_⟩
  rw [List.mem_singleton] at he
  subst he
  cases hs
  exact ⟨rfl, pl_Nd l⟩
theorem rTreeR (m : Mp) (root : Vt) (hv : m.vs.length ≤ 10000) (he : m.es.length ≤ 10000000) : FnR Try.prog 50 [avMf m, root.av] (RT1 (refTree m root)) :=
  fnR_of ((rTree_ok m root hv he).mono (fun r H S h => ⟨h.2.1, h.1, h.2.2⟩))
theorem pTreeR (m : Mp) (root : Vt) (hv : m.vs.length ≤ 10000) (he : m.es.length ≤ 10000000) (hto : ∀ e ∈ m.es, m.vs.any (fun x => decide (x = e.t)) = true) : FnR Try.prog 49 [avMf m, root.av] (RT1 (prgTree m root)) :=
  fnR_of ((pTree_ok m root hv he hto).mono (fun r H S h => ⟨h.2.1, h.1, h.2.2⟩))
theorem treeN_len {bt : List Nd → Nd → Nd → Bool} {es : List Eg} : ∀ (k : Nat) (t : List Nd), (treeN bt es k t).length ≤ t.length + k
  | 0, t => by unfold treeN; omega
  | k + 1, t => by
    cases hb : bestL bt t es with
    | none => rw [treeN_none hb]; omega
    | some n =>
      rw [treeN_some hb]
      have := treeN_len (bt := bt) (es := es) k (t ++ [n])
      rw [List.length_append, List.length_singleton] at this
      omega
theorem refTree_len (m : Mp) (root : Vt) : (refTree m root).length ≤ m.vs.length + 1 := by
  unfold refTree
  split
  · have := treeN_len (bt := soon) (es := m.es) m.vs.length [rootN root]
    rw [List.length_singleton] at this
    omega
  · exact Nat.zero_le _
theorem map_vs {l : List Ls} (h : Few l) : (mapL l).vs.length ≤ 2000 := by
  have := verts_len l
  have := h.len
  show (vertsL l).length ≤ _
  omega
theorem map_es {l : List Ls} (h : Few l) : (mapL l).es.length ≤ 10000000 := by
  have h1 := flat_len (f := fromL l) (c := 3000) (fun v => from_len h v) (vertsL l)
  have h2 := map_vs h
  have h3 : (vertsL l).length ≤ 2000 := h2
  show ((vertsL l).flatMap (fromL l)).length ≤ _
  omega
theorem map_any {l : List Ls} : ∀ e ∈ (mapL l).es, (mapL l).vs.any (fun x => decide (x = e.t)) = true := fun e he =>
  List.any_eq_true.2 ⟨e.t, (map_to he).1, decide_eq_true rfl⟩
/-- The trees of the map of a short list. -/
theorem pTreeL (l : List Ls) (root : Vt) (h : Few l) : FnR Try.prog 49 [avMf (mapL l), root.av] (RT1 (refTree (mapL l) root)) := by
  have := pTreeR (mapL l) root (Nat.le_trans (map_vs h) (by decide)) (map_es h) map_any
  rwa [map_same] at this
theorem rTreeL (l : List Ls) (root : Vt) (h : Few l) : FnR Try.prog 50 [avMf (mapL l), root.av] (RT1 (refTree (mapL l) root)) :=
  rTreeR (mapL l) root (Nat.le_trans (map_vs h) (by decide)) (map_es h)
theorem tree_lt {l : List Ls} (h : Few l) (root : Vt) : (refTree (mapL l) root).length < 1000000 := by
  have := refTree_len (mapL l) root
  have := map_vs h
  omega
theorem pl_rows {α : Type} {f : α → List RV} (hf : ∀ x, ∀ c ∈ f x, ∃ v, c = RV.v v) (l : List α) : ∀ row ∈ l.map f, ∀ x ∈ row, ∃ v, x = RV.v v := by
  intro row hr x hx
  obtain ⟨n, _, rfl⟩ := List.mem_map.1 hr
  exact hf n x hx
theorem pMapP {m : Mp} : ∀ r S1, (r = avM ∧ S1 = SM m) → plainA r = true ∧ PlainS S1 := by
  rintro r S ⟨rfl, rfl⟩
  refine ⟨rfl, fun e he s hs => ?_⟩
  simp only [SM, List.mem_cons, List.not_mem_nil, or_false] at he
  rcases he with rfl | rfl | rfl | rfl | rfl <;> cases hs
  · exact ⟨rfl, pl_rows (fun x c hc => by simp only [List.mem_cons, List.not_mem_nil, or_false] at hc; rcases hc with rfl | rfl <;> exact ⟨_, rfl⟩) _⟩
  · exact ⟨rfl, pl_rows (fun x c hc => by simp only [List.mem_cons, List.not_mem_nil, or_false] at hc; rcases hc with rfl | rfl | rfl | rfl | rfl | rfl <;> exact ⟨_, rfl⟩) _⟩
  · exact ⟨rfl, pl_rows (fun x c hc => by simp only [List.mem_cons, List.not_mem_nil, or_false] at hc; rcases hc with rfl | rfl | rfl | rfl <;> exact ⟨_, rfl⟩) _⟩
  · exact ⟨rfl, pl_rows (fun x c hc => by simp only [List.mem_cons, List.not_mem_nil, or_false] at hc; rcases hc with rfl | rfl | rfl | rfl <;> exact ⟨_, rfl⟩) _⟩
  · exact ⟨rfl, pl_rows (fun x c hc => by simp only [List.mem_cons, List.not_mem_nil, or_false] at hc; rcases hc with rfl; exact ⟨_, rfl⟩) _⟩
abbrev RM (l : List Ls) : AV → Sp → Prop := fun r S => r = avM ∧ S = SM (mapL l)
theorem MapF (l : List Ls) (h : Few l) : FnR Try.prog 15 [fsL l] (RM l) := fnR_of ((Map_ok l h).mono (fun r H S h => ⟨h.2.1, h.1, h.2.2⟩))
/-- The map of a list that is read. -/
theorem MapR (l : List Ls) (h : Few l) : FnR Try.prog 15 [rsL l] (RM l) := FnR.up (by
  show FnR _ _ [upA (rsL l)] _
  rw [up_rsL]; exact MapF l h) pMapP
end Go.Proofs.Ytmocggibcniggaa.Kt
namespace Go.Proofs.Ytmocggibcniggaa.Kt
open Go Kw Go.Proofs
set_option maxRecDepth 100000
set_option maxHeartbeats 4000000
theorem own : ownKnob Try.prog.godebug = none := by kernel_rfl
theorem laidOut : laidOutB Try.prog = true := by kernel_rfl
theorem int_of {k : Nat} {rv : List RV} (h : Shaped Try.prog (k + 1) 3 rv) : ∃ m, rv = [.v (.int .i64 m)] := by
  obtain ⟨m, rfl, _⟩ := sh_int Try.underlying3 h
  exact ⟨m, rfl⟩
theorem vert_of {k : Nat} {rv : List RV} (h : Shaped Try.prog (k + 2) 34 rv) : ∃ c : Vt, rv = c.row := by
  obtain ⟨parts, rfl, hl, hf⟩ := sh_struct Try.underlying34 h
  match parts, hl with
  | [p0, p1], _ =>
    have h0 : ∃ m, p0 = [.v (.int .i64 m)] := by
      obtain ⟨q, hq, hs⟩ := hf 0 _ rfl
      cases hq
      exact int_of hs
    have h1 : ∃ m, p1 = [.v (.int .i64 m)] := by
      obtain ⟨q, hq, hs⟩ := hf 1 _ rfl
      cases hq
      exact int_of hs
    obtain ⟨m0, rfl⟩ := h0
    obtain ⟨m1, rfl⟩ := h1
    exact ⟨⟨m0, m1⟩, rfl⟩
theorem link_of {k : Nat} {rv : List RV} (h : Shaped Try.prog (k + 2) 54 rv) : ∃ c : Lk, rv = c.row := by
  obtain ⟨parts, rfl, hl, hf⟩ := sh_struct Try.underlying54 h
  match parts, hl with
  | [p0, p1, p2, p3], _ =>
    have h0 : ∃ m, p0 = [.v (.int .i64 m)] := by
      obtain ⟨q, hq, hs⟩ := hf 0 _ rfl
      cases hq
      exact int_of hs
    have h1 : ∃ m, p1 = [.v (.int .i64 m)] := by
      obtain ⟨q, hq, hs⟩ := hf 1 _ rfl
      cases hq
      exact int_of hs
    have h2 : ∃ m, p2 = [.v (.int .i64 m)] := by
      obtain ⟨q, hq, hs⟩ := hf 2 _ rfl
      cases hq
      exact int_of hs
    have h3 : ∃ m, p3 = [.v (.int .i64 m)] := by
      obtain ⟨q, hq, hs⟩ := hf 3 _ rfl
      cases hq
      exact int_of hs
    obtain ⟨m0, rfl⟩ := h0
    obtain ⟨m1, rfl⟩ := h1
    obtain ⟨m2, rfl⟩ := h2
    obtain ⟨m3, rfl⟩ := h3
    exact ⟨⟨m0, m1, m2, m3⟩, rfl⟩
theorem num_of {k : Nat} {rv : List RV} (h : Shaped Try.prog (k + 2) 3 rv) : ∃ c : Int, rv = nRow c := int_of h
theorem verts_of {k : Nat} : ∀ {L : List (List RV)}, (∀ row ∈ L, Shaped Try.prog (k + 2) 34 row) → ∃ l : List Vt, L = l.map Vt.row
  | [], _ => ⟨[], rfl⟩
  | r :: L, h => by
    obtain ⟨c, rfl⟩ := vert_of (h r (by simp))
    obtain ⟨l, rfl⟩ := verts_of (L := L) (fun row hr => h row (by simp [hr]))
    exact ⟨c :: l, rfl⟩
theorem links_of {k : Nat} : ∀ {L : List (List RV)}, (∀ row ∈ L, Shaped Try.prog (k + 2) 54 row) → ∃ l : List Lk, L = l.map Lk.row
  | [], _ => ⟨[], rfl⟩
  | r :: L, h => by
    obtain ⟨c, rfl⟩ := link_of (h r (by simp))
    obtain ⟨l, rfl⟩ := links_of (L := L) (fun row hr => h row (by simp [hr]))
    exact ⟨c :: l, rfl⟩
theorem nums_of {k : Nat} : ∀ {L : List (List RV)}, (∀ row ∈ L, Shaped Try.prog (k + 2) 3 row) → ∃ l : List Int, L = l.map nRow
  | [], _ => ⟨[], rfl⟩
  | r :: L, h => by
    obtain ⟨c, rfl⟩ := num_of (h r (by simp))
    obtain ⟨l, rfl⟩ := nums_of (L := L) (fun row hr => h row (by simp [hr]))
    exact ⟨c :: l, rfl⟩
theorem slV_of {k : Nat} {rv : List RV} (h : Shaped Try.prog (k + 3) 25 rv) : ∃ l : List Vt, rv = [.rs 2 (l.map Vt.row)] := by
  obtain ⟨L, rfl, _, hL⟩ := sh_slice Try.underlying25 h
  obtain ⟨l, rfl⟩ := verts_of (k := k) hL
  exact ⟨l, by rw [show Try.prog.cellsOf 34 = 2 by kernel_rfl]⟩
theorem slK_of {k : Nat} {rv : List RV} (h : Shaped Try.prog (k + 3) 49 rv) : ∃ l : List Lk, rv = [.rs 4 (l.map Lk.row)] := by
  obtain ⟨L, rfl, _, hL⟩ := sh_slice Try.underlying49 h
  obtain ⟨l, rfl⟩ := links_of (k := k) hL
  exact ⟨l, by rw [show Try.prog.cellsOf 54 = 4 by kernel_rfl]⟩
theorem slN_of {k : Nat} {rv : List RV} (h : Shaped Try.prog (k + 3) 29 rv) : ∃ l : List Int, rv = [.rs 1 (l.map nRow)] := by
  obtain ⟨L, rfl, _, hL⟩ := sh_slice Try.underlying29 h
  obtain ⟨l, rfl⟩ := nums_of (k := k) hL
  exact ⟨l, by rw [show Try.prog.cellsOf 3 = 1 by kernel_rfl]⟩
structure Hd7 where
  a : Int
  b : Int
  c : Int
  d : Int
  e : Int
  f : Int
  g : Int
abbrev Hd7.row (h : Hd7) : List RV := [.v (.int .i64 h.a), .v (.int .i64 h.b), .v (.int .i64 h.c), .v (.int .i64 h.d), .v (.int .i64 h.e), .v (.int .i64 h.f), .v (.int .i64 h.g)]
theorem head_of {k : Nat} {rv : List RV} (h : Shaped Try.prog (k + 3) 48 rv) : ∃ c : Hd7, rv = c.row := by
  obtain ⟨parts, rfl, hl, hf⟩ := sh_struct Try.underlying48 h
  match parts, hl with
  | [p0, p1, p2, p3, p4, p5, p6], _ =>
    have h0 : ∃ m, p0 = [.v (.int .i64 m)] := by
      obtain ⟨q, hq, hs⟩ := hf 0 _ rfl
      cases hq
      exact int_of hs
    have h1 : ∃ m, p1 = [.v (.int .i64 m)] := by
      obtain ⟨q, hq, hs⟩ := hf 1 _ rfl
      cases hq
      exact int_of hs
    have h2 : ∃ m, p2 = [.v (.int .i64 m)] := by
      obtain ⟨q, hq, hs⟩ := hf 2 _ rfl
      cases hq
      exact int_of hs
    have h3 : ∃ m, p3 = [.v (.int .i64 m)] := by
      obtain ⟨q, hq, hs⟩ := hf 3 _ rfl
      cases hq
      exact int_of hs
    have h4 : ∃ m, p4 = [.v (.int .i64 m)] := by
      obtain ⟨q, hq, hs⟩ := hf 4 _ rfl
      cases hq
      exact int_of hs
    have h5 : ∃ m, p5 = [.v (.int .i64 m)] := by
      obtain ⟨q, hq, hs⟩ := hf 5 _ rfl
      cases hq
      exact int_of hs
    have h6 : ∃ m, p6 = [.v (.int .i64 m)] := by
      obtain ⟨q, hq, hs⟩ := hf 6 _ rfl
      cases hq
      exact int_of hs
    obtain ⟨m0, rfl⟩ := h0
    obtain ⟨m1, rfl⟩ := h1
    obtain ⟨m2, rfl⟩ := h2
    obtain ⟨m3, rfl⟩ := h3
    obtain ⟨m4, rfl⟩ := h4
    obtain ⟨m5, rfl⟩ := h5
    obtain ⟨m6, rfl⟩ := h6
    exact ⟨⟨m0, m1, m2, m3, m4, m5, m6⟩, rfl⟩
theorem lsa_of {k : Nat} {rv : List RV} (h : Shaped Try.prog (k + 4) 51 rv) : ∃ c : Ls, rv = c.rowR := by
  obtain ⟨parts, rfl, hl, hf⟩ := sh_struct Try.underlying51 h
  match parts, hl with
  | [p0, p1, p2, p3, p4, p5], _ =>
    have h0 : ∃ c : Hd7, p0 = c.row := by
      obtain ⟨q, hq, hs⟩ := hf 0 _ rfl
      cases hq
      exact head_of (k := k) hs
    have h1 : ∃ m, p1 = [.v (.int .i64 m)] := by
      obtain ⟨q, hq, hs⟩ := hf 1 _ rfl
      cases hq
      exact int_of hs
    have h2 : ∃ l : List Lk, p2 = [.rs 4 (l.map Lk.row)] := by
      obtain ⟨q, hq, hs⟩ := hf 2 _ rfl
      cases hq
      exact slK_of (k := k) hs
    have h3 : ∃ m, p3 = [.v (.int .i64 m)] := by
      obtain ⟨q, hq, hs⟩ := hf 3 _ rfl
      cases hq
      exact int_of hs
    have h4 : ∃ l : List Int, p4 = [.rs 1 (l.map nRow)] := by
      obtain ⟨q, hq, hs⟩ := hf 4 _ rfl
      cases hq
      exact slN_of (k := k) hs
    have h5 : ∃ l : List Vt, p5 = [.rs 2 (l.map Vt.row)] := by
      obtain ⟨q, hq, hs⟩ := hf 5 _ rfl
      cases hq
      exact slV_of (k := k) hs
    obtain ⟨m0, rfl⟩ := h0
    obtain ⟨m1, rfl⟩ := h1
    obtain ⟨m2, rfl⟩ := h2
    obtain ⟨m3, rfl⟩ := h3
    obtain ⟨m4, rfl⟩ := h4
    obtain ⟨m5, rfl⟩ := h5
    exact ⟨⟨m0.a, m0.b, m0.c, m0.d, m0.e, m0.f, m0.g, m1, m2, m3, m4, m5⟩, rfl⟩
theorem lsas_of {k : Nat} : ∀ {L : List (List RV)}, (∀ row ∈ L, Shaped Try.prog (k + 4) 51 row) → ∃ l : List Ls, L = l.map Ls.rowR
  | [], _ => ⟨[], rfl⟩
  | r :: L, h => by
    obtain ⟨c, rfl⟩ := lsa_of (h r (by simp))
    obtain ⟨l, rfl⟩ := lsas_of (L := L) (fun row hr => h row (by simp [hr]))
    exact ⟨c :: l, rfl⟩
theorem slL_of {k : Nat} {rv : List RV} (h : Shaped Try.prog (k + 5) 22 rv) : ∃ l : List Ls, rv = [.rs 12 (l.map Ls.rowR)] := by
  obtain ⟨L, rfl, _, hL⟩ := sh_slice Try.underlying22 h
  obtain ⟨l, rfl⟩ := lsas_of (k := k) hL
  exact ⟨l, by rw [show Try.prog.cellsOf 51 = 12 by kernel_rfl]⟩
section
variable {H : Type} {enc : TypeId × Value → H} {w : World} {base b0 : Nat} {spare : Nat → Bool} {held : Bool} {v : Value} {d : DataW H} {p : List MemPlace}
theorem arg_lsas (hv : Value.okWide Try.prog w .any b0 22 v) (h : DataW.Trod enc Try.prog w base spare held 22 v d p) : ∃ l : List Ls, C (E0 w) w (rsL l) v := by
  obtain ⟨A, ln, cp, rfl⟩ := Go.WideShapes.okWide_slice Try.underlying22 hv
  obtain ⟨x, ⟨l, rfl⟩, h2⟩ := arg_one (k := 6) (Q := fun x => ∃ l : List Ls, x = .rs 12 (l.map Ls.rowR)) (by kernel_rfl) rfl h (fun rv hs => by
    obtain ⟨l, rfl⟩ := slL_of (k := 1) hs
    exact ⟨_, rfl, l, rfl⟩)
  exact ⟨l, h2⟩
theorem arg_verts (hv : Value.okWide Try.prog w .any b0 25 v) (h : DataW.Trod enc Try.prog w base spare held 25 v d p) : ∃ l : List Vt, C (E0 w) w (rsV l) v := by
  obtain ⟨A, ln, cp, rfl⟩ := Go.WideShapes.okWide_slice Try.underlying25 hv
  obtain ⟨x, ⟨l, rfl⟩, h2⟩ := arg_one (k := 6) (Q := fun x => ∃ l : List Vt, x = .rs 2 (l.map Vt.row)) (by kernel_rfl) rfl h (fun rv hs => by
    obtain ⟨l, rfl⟩ := slV_of (k := 3) hs
    exact ⟨_, rfl, l, rfl⟩)
  exact ⟨l, h2⟩
theorem arg_vert (hv : Value.okWide Try.prog w .any b0 34 v) (h : DataW.Trod enc Try.prog w base spare held 34 v d p) : ∃ x : Vt, C (E0 w) w x.av v := by
  obtain ⟨rv, h1, h2⟩ := arg_struct (k := 6) Try.underlying34 (by kernel_rfl) hv h
  obtain ⟨x, rfl⟩ := vert_of (k := 4) h1
  exact ⟨x, h2⟩
end
end Go.Proofs.Ytmocggibcniggaa.Kt
namespace Go.Proofs.Ytmocggibcniggaa.Kt
open Go Kw Go.Proofs
attribute [local irreducible] Kw.GI Kw.GR Kw.FnR Kw.FnX Kw.FnI
set_option maxHeartbeats 8000000
set_option maxRecDepth 100000
/-! ### routes -/
structure Rt where
  p : Int
  b : Int
  c : Int
  o : Int
  n : Int
  deriving DecidableEq
abbrev Rt.row (x : Rt) : List RV := [.v (.int .i64 x.p), .v (.int .i64 x.b), .v (.int .i64 x.c), .v (.int .i64 x.o), .v (.int .i64 x.n)]
abbrev Rt.av (x : Rt) : AV := .agg [I x.p, I x.b, I x.c, I x.o, I x.n]
abbrev eRt (l : List Rt) : Option SE := some ⟨67, 5, l.map Rt.row, false⟩
abbrev rsRt (l : List Rt) : AV := .r (.rs 5 (l.map Rt.row))
abbrev hRt (x : Rt) : Option (TypeId × List AV) := some (67, [I x.p, I x.b, I x.c, I x.o, I x.n])
def cmpRt (x y : Rt) : Int := orL [cmp3 x.p y.p, cmp3 x.b y.b, cmp3 x.c y.c]
def eqRt (x y : Rt) : Bool := eqB x.p y.p && eqB x.b y.b
theorem pN3 {l : List Int} : ∀ r S1, (r = .sl 0 ∧ S1 = [eN l]) → plainA r = true ∧ PlainS S1 := by
  rintro r S ⟨rfl, rfl⟩
  refine ⟨rfl, fun e he s hs => ?_⟩
  rw [List.mem_singleton] at he
  subst he
  cases hs
  exact ⟨rfl, pl_rows (fun x c hc => by simp only [List.mem_cons, List.not_mem_nil, or_false] at hc; rcases hc with rfl; exact ⟨_, rfl⟩) l⟩
theorem cmp_ok (x y : Rt) : FnR Try.prog 64 [x.av, y.av] (RI (cmpRt x y)) := by
  refine fnR_intro (T := TT) (n := 22) Try.func64 rfl rfl rfl (fun w Z => ?_)
  (repeat (first | refine r_end ?_ | (refine r_op ?_; first | refine r_pure hT rfl rfl rfl rfl rfl rfl ?_ | refine r_box rfl rfl rfl rfl rfl rfl rfl rfl rfl ?_) | refine gi_seq ?_ | refine gi_plain_ne 1 rfl ?_))
  refine gi_drawM [] [(0, .p), (2, .p), (5, .p), (7, .p), (10, .p), (12, .p), (1, .t), (3, .t), (6, .t), (8, .t), (11, .t), (13, .t), (4, .o), (9, .o), (14, .o), (15, .o), (16, .o), (17, .p)] [0, 1, 0, 4, 10, 0, 32, 0, 128, 336, 0, 1024, 0, 4096, 10752, 16912, 49152, 131071] [0, 1, 0, 4, 10, 0, 32, 0, 128, 320, 0, 1024, 0, 4096, 10240, 16912, 32768, 65536] hm rfl (by kernel_rfl) (fun w1 K => ?_)
  (repeat ((refine r_op ?_; first | refine r_pure hT rfl rfl rfl rfl rfl rfl ?_ | refine r_load hT rfl rfl rfl rfl rfl rfl rfl rfl rfl ?_)))
  refine r_call (Compare_ok x.p y.p) rfl rfl rfl rfl rfl rfl rfl rfl Try.func66 rfl rfl rfl pI ?_
  rintro r S1 ⟨rfl, rfl⟩
  skip
  refine r_call (Compare_ok x.b y.b) rfl rfl rfl rfl rfl rfl rfl rfl Try.func66 rfl rfl rfl pI ?_
  rintro r S1 ⟨rfl, rfl⟩
  skip
  refine r_call (Compare_ok x.c y.c) rfl rfl rfl rfl rfl rfl rfl rfl Try.func66 rfl rfl rfl pI ?_
  rintro r S1 ⟨rfl, rfl⟩
  (repeat ((refine r_op ?_; refine r_lit hT rfl rfl rfl rfl rfl rfl rfl rfl rfl rfl rfl rfl rfl ?_)))
  refine r_call (Or_ok [cmp3 x.p y.p, cmp3 x.b y.b, cmp3 x.c y.c] (by show 3 < 1000000; omega)) rfl rfl rfl rfl rfl rfl rfl rfl Try.func65 rfl rfl rfl pI ?_
  rintro r S1 ⟨rfl, rfl⟩
  (repeat (first | refine r_end ?_ | (refine r_op ?_; refine r_pure hT rfl rfl rfl rfl rfl rfl ?_)))
  refine gi_retW hT Try.func64 rfl rfl [] rfl rfl rfl rfl ?_
  exact ⟨rfl, rfl⟩
theorem eqRt_ok (x y : Rt) : FnR Try.prog 68 [x.av, y.av] (RB (eqRt x y)) := by
  refine fnR_intro (T := TT) (n := 17) Try.func68 rfl rfl rfl (fun w Z => ?_)
  (repeat (first | refine r_end ?_ | (refine r_op ?_; first | refine r_pure hT rfl rfl rfl rfl rfl rfl ?_ | refine r_load hT rfl rfl rfl rfl rfl rfl rfl rfl rfl ?_ | refine r_box rfl rfl rfl rfl rfl rfl rfl rfl rfl ?_) | refine gi_seq ?_ | refine gi_plain ?_))
  refine r_case (d := 10) rfl (fun h1 => ?_) (fun h1 => ?_)
  · (repeat (first | refine r_end ?_ | (refine r_op ?_; first | refine r_pure hT rfl rfl rfl rfl rfl rfl ?_ | refine r_load hT rfl rfl rfl rfl rfl rfl rfl rfl rfl ?_)))
    refine gi_retW hT Try.func68 rfl rfl [] rfl rfl rfl rfl ?_
    exact ⟨by unfold eqRt; rw [h1]; rfl, rfl⟩
  · (repeat (first | refine r_end ?_ | (refine r_op ?_; first | refine r_pure hT rfl rfl rfl rfl rfl rfl ?_ | refine r_off rfl rfl rfl rfl rfl ?_)))
    refine gi_retW hT Try.func68 rfl rfl [] rfl rfl rfl rfl ?_
    exact ⟨by unfold eqRt; rw [h1]; rfl, rfl⟩
end Go.Proofs.Ytmocggibcniggaa.Kt
