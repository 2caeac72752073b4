/- Part of the proofs of this seat's statements: what the functions compute. No condition. -/
import Derived.Test.YtmocggibcniggaaC23T
import Derived.Test.YtmocggibcniggaaC23K
set_option linter.unusedSimpArgs false
set_option linter.unusedVariables false
namespace Go.Proofs.Ytmocggibcniggaa.Kt
open Go Kw Go.Proofs
attribute [local irreducible] Kw.GI Kw.GR Kw.FnR Kw.FnX
set_option maxHeartbeats 16000000
set_option maxRecDepth 100000
theorem pRchU {t : List Nd} {m : Mp} {ms : List Vt} : ∀ r H1 S1, RReach t m ms r H1 S1 → plQ r = true ∧ (∀ e ∈ H1, ∀ t cs, e = some (t, cs) → plQL cs = true) ∧ PlainS S1 := by
  rintro r H S ⟨rfl, rfl, o, rfl, _⟩
  refine ⟨rfl, (fun e he => nomatch he), fun e he s hs => ?_⟩
  rw [List.mem_singleton] at he
  subst he
  cases hs
  exact ⟨rfl, pl_rows (fun x c hc => by simp only [List.mem_cons, List.not_mem_nil, or_false] at hc; rcases hc with rfl; exact ⟨_, rfl⟩) o⟩
theorem castT_lt {l : List Ls} (hf : Few l) (s : Src) : (castT (mapL l) s).length < 1000000 := by
  unfold castT
  split
  · exact tree_lt hf s.v
  · exact (by decide : 0 < 1000000)
theorem castT_kd {l : List Ls} (hf : Few l) (s : Src) : ∀ x ∈ castT (mapL l) s, x.v.k = 1 ∨ x.v.k = 2 := by
  intro x hx
  unfold castT at hx
  split at hx
  · by_cases hv : s.v ∈ (mapL l).vs
    · exact verts_kind ((tr_of hf hv).vs x hx)
    · unfold refTree at hx
      rw [show (mapL l).vs.any (fun x => decide (x = s.v)) = false from ?_] at hx
      · cases hx
      · rw [← Bool.not_eq_true, List.any_eq_true]
        rintro ⟨y, hy, he⟩
        exact hv (of_decide_eq_true he ▸ hy)
  · cases hx
theorem CastAll_ok (l : List Ls) (a g : Int) : FnR Try.prog 3 [rsL l, I a, I g] (RB true) := by
  refine fnR_intro (T := TT) (n := 87) Try.func3 rfl rfl rfl (fun w Z => ?_)
  (repeat (first | refine r_end ?_ | (refine r_op ?_; refine r_pure hT rfl rfl rfl rfl rfl rfl ?_) | refine gi_seq ?_ | refine gi_plain ?_))
  refine r_call (RightV l) rfl rfl rfl rfl rfl rfl rfl rfl Try.func13 rfl rfl rfl pRFV ?_
  rintro r S1 ⟨⟨b, rfl, hb⟩, rfl⟩
  (repeat (first | refine r_end ?_ | (refine r_op ?_; refine r_pure hT rfl rfl rfl rfl rfl rfl ?_)))
  refine gi_cond rfl (fun c1 => ?_) (fun c1 => ?_)
  · (repeat (first | refine gi_seq ?_ | refine gi_plain ?_))
    refine r_call (awake23_ok) rfl rfl rfl rfl rfl rfl rfl rfl Try.func14 rfl rfl rfl pB ?_
    rintro r S1 ⟨rfl, rfl⟩
    (repeat (first | refine r_end ?_ | (refine r_op ?_; refine r_pure hT rfl rfl rfl rfl rfl rfl ?_)))
    refine gi_retW hT Try.func3 rfl rfl [] rfl rfl rfl rfl ?_
    exact ⟨rfl, rfl⟩
  rw [notB_eq] at c1
  obtain ⟨hf, hvt⟩ := hb (by simpa using c1)
  have hl0 := hf.len
  have hvl : (vertsL l).length ≤ 2000 := map_vs hf
  have hsn : (mapL l).sn.length < 1000000 := by
    have := flat_len (snF_len l) (vertsL l)
    show ((vertsL l).flatMap (snF l)).length < _
    omega
  have hsb : (mapL l).sb.length < 100000000 := by
    have := flat_len (fun v => sbF_len hf v) (vertsL l)
    show ((vertsL l).flatMap (sbF l)).length < _
    omega
  have hwl : (mapL l).wl.length < 1000000 := by
    have := flat_len (fun v => wlF_len l v) (vertsL l)
    show ((vertsL l).flatMap (wlF l)).length < _
    omega
  (repeat (first | (refine r_op ?_; refine r_pure hT rfl rfl rfl rfl rfl rfl ?_) | refine gi_seq ?_ | refine gi_plain ?_ | refine gi_skip ?_))
  refine r_call (MapR l hf) rfl rfl rfl rfl rfl rfl rfl rfl Try.func15 rfl rfl rfl pMapP ?_
  rintro r S1 ⟨rfl, rfl⟩
  (repeat (first | refine r_end ?_ | (refine r_op ?_; first | refine r_store hT rfl rfl rfl rfl rfl rfl rfl rfl rfl rfl ?_ | refine r_alloc hT rfl rfl rfl rfl rfl rfl rfl rfl rfl ?_) | refine gi_seq ?_))
  refine gi_freeze 0 (L' := (mapL l).vs.map Vt.row) rfl rfl ?_
  refine gi_freeze 1 (L' := (mapL l).es.map Eg.row) rfl rfl ?_
  refine gi_freeze 2 (L' := (mapL l).sb.map Sb.row) rfl rfl ?_
  refine gi_freeze 3 (L' := (mapL l).sn.map Sn.row) rfl rfl ?_
  refine gi_freeze 4 (L' := (mapL l).wl.map nRow) rfl rfl ?_
  refine gi_weak (F' := [(7, .box 0 0), (0, rsL l), (1, I a), (2, I g)]) (H' := [hMf (mapL l)]) (S' := []) ⟨rfl, rfl, rfl, rfl, trivial⟩ ⟨rfl, trivial⟩ trivial rfl ?_
  have hPT := pTreeC_ok l hf a hsn hsb
  have hRT := rCast_ok l hf a hsn hsb
  rw [src_same] at hRT
  (repeat (first | (refine r_op ?_; first | refine r_pure hT rfl rfl rfl rfl rfl rfl ?_ | refine r_load hT rfl rfl rfl rfl rfl rfl rfl rfl rfl ?_) | refine gi_plain ?_))
  refine r_call (pSource_ok (mapL l) a hsn hsb) rfl rfl rfl rfl rfl rfl rfl rfl Try.func16 rfl rfl rfl pSrc ?_
  rintro r S1 ⟨rfl, rfl⟩
  (repeat (first | refine r_end ?_ | (refine r_op ?_; first | refine r_pure hT rfl rfl rfl rfl rfl rfl ?_ | refine r_load hT rfl rfl rfl rfl rfl rfl rfl rfl rfl ?_ | refine r_store hT rfl rfl rfl rfl rfl rfl rfl rfl rfl rfl ?_ | refine r_alloc hT rfl rfl rfl rfl rfl rfl rfl rfl rfl ?_) | refine gi_seq ?_ | refine gi_plain ?_))
  refine r_call (rSource_ok (mapL l) a hsn hsb) rfl rfl rfl rfl rfl rfl rfl rfl Try.func17 rfl rfl rfl pSrc ?_
  rintro r S1 ⟨rfl, rfl⟩
  rw [src_same]
  have hlt := castT_lt hf (srcF a (mapL l))
  have hkd := castT_kd hf (srcF a (mapL l))
  generalize castT (mapL l) (srcF a (mapL l)) = t at hlt hkd hPT hRT
  generalize srcF a (mapL l) = s
  (repeat (first | refine r_end ?_ | (refine r_op ?_; first | refine r_pure hT rfl rfl rfl rfl rfl rfl ?_ | refine r_load hT rfl rfl rfl rfl rfl rfl rfl rfl rfl ?_ | refine r_store hT rfl rfl rfl rfl rfl rfl rfl rfl rfl rfl ?_ | refine r_alloc hT rfl rfl rfl rfl rfl rfl rfl rfl rfl ?_) | refine gi_seq ?_ | refine gi_plain ?_))
  refine r_callX [] [] (hPT) rfl rfl rfl rfl rfl rfl Try.func18 rfl rfl rfl rfl rfl rfl rfl pNd ?_
  rintro r H1 S1 ⟨rfl, rfl, rfl⟩
  (repeat (first | refine r_end ?_ | (refine r_op ?_; first | refine r_pure hT rfl rfl rfl rfl rfl rfl ?_ | refine r_load hT rfl rfl rfl rfl rfl rfl rfl rfl rfl ?_) | refine gi_seq ?_ | refine gi_plain ?_))
  refine r_callX [] [] (hRT) rfl rfl rfl rfl rfl rfl Try.func19 rfl rfl rfl rfl rfl rfl rfl pNd ?_
  rintro r H1 S1 ⟨rfl, rfl, rfl⟩
  (repeat (first | refine r_end ?_ | (refine r_op ?_; refine r_pure hT rfl rfl rfl rfl rfl rfl ?_) | refine gi_seq ?_))
  refine gi_freeze 0 (L' := t.map Nd.row) rfl rfl ?_
  refine gi_freeze 1 (L' := t.map Nd.row) rfl rfl ?_
  (repeat (first | (refine r_op ?_; refine r_pure hT rfl rfl rfl rfl rfl rfl ?_) | refine gi_plain ?_))
  refine r_call (MembersR l g hl0 hvt) rfl rfl rfl rfl rfl rfl rfl rfl Try.func20 rfl rfl rfl pMem ?_
  rintro r S1 ⟨rfl, ms, rfl, hms⟩
  (repeat (first | refine r_end ?_ | (refine r_op ?_; refine r_pure hT rfl rfl rfl rfl rfl rfl ?_) | refine gi_seq ?_))
  refine gi_drawM [] [(0, .t), (1, .t), (2, .p), (3, .p), (4, .p), (5, .p), (6, .p), (7, .p), (8, .p), (9, .p), (10, .p), (11, .p), (12, .p), (13, .p), (14, .p), (15, .p), (16, .p), (17, .p), (18, .p), (19, .p), (20, .p), (21, .o), (22, .p), (23, .p), (24, .p), (26, .p), (28, .p), (30, .p), (25, .t), (29, .t), (27, .o), (31, .o), (32, .o), (33, .p), (34, .p), (35, .o), (36, .p), (37, .p)] [0, 0, 3, 4, 8, 8, 56, 72, 136, 256, 256, 1792, 2304, 4352, 8192, 8192, 57344, 73728, 139264, 262144, 262144, 1835008, 2359296, 6291456, 8388608, 8388608, 8388608, 125829120, 8388608, 8388608, 8388608, 2021654528, 2290089984, 4303355904, 12884901888, 17179869184, 51539607552, 137438953471] [0, 0, 3, 4, 8, 8, 56, 72, 128, 256, 256, 1792, 2304, 4096, 8192, 8192, 57344, 73728, 131072, 262144, 262144, 1835008, 2359296, 4194304, 8388608, 8388608, 8388608, 125829120, 8388608, 8388608, 8388608, 1887436800, 2290089984, 4303355904, 8589934592, 17179869184, 51539607552, 68719476736] hm rfl (by kernel_rfl) (fun w1 K => ?_)
  (repeat ((refine r_op ?_; refine r_load hT rfl rfl rfl rfl rfl rfl rfl rfl rfl ?_)))
  refine r_eqT _ rfl rfl rfl rfl rfl rfl rfl rfl rfl y_flat_Vt ?_
  (repeat ((refine r_op ?_; refine r_pure hT rfl rfl rfl rfl rfl rfl ?_)))
  refine r_known (d := 53) (b := true) rfl (by rw [veq_eq]; exact decide_eq_true rfl) ?_
  (repeat ((refine r_op ?_; refine r_pure hT rfl rfl rfl rfl rfl rfl ?_)))
  refine r_known (d := 58) (b := true) rfl (by rw [eqB_eq]; simp) ?_
  (repeat ((refine r_op ?_; refine r_pure hT rfl rfl rfl rfl rfl rfl ?_)))
  refine r_known (d := 63) (b := true) rfl (by rw [eqB_eq]; simp) ?_
  (repeat ((refine r_op ?_; refine r_pure hT rfl rfl rfl rfl rfl rfl ?_)))
  refine r_known (d := 68) (b := true) rfl (by rw [beqB_eq]; simp) ?_
  (repeat ((refine r_op ?_; refine r_pure hT rfl rfl rfl rfl rfl rfl ?_)))
  refine r_thaw 69 rfl ?_
  refine r_thaw 70 rfl ?_
  refine r_call (Nodes_okC t hlt) rfl rfl rfl rfl rfl rfl rfl rfl Try.func21 rfl rfl rfl pB ?_
  rintro r S1 ⟨rfl, rfl⟩
  (repeat ((refine r_op ?_; first | refine r_pure hT rfl rfl rfl rfl rfl rfl ?_ | refine r_load hT rfl rfl rfl rfl rfl rfl rfl rfl rfl ?_)))
  refine r_callXo [] [] (pReach_ok t (mapL l) ms hlt hwl (by omega)) rfl rfl rfl rfl rfl rfl Try.func23 rfl rfl rfl rfl rfl rfl rfl rfl rfl rfl pRchU ?_
  rintro r H1 S1 ⟨rfl, rfl, oa, rfl, hA⟩
  skip
  refine r_thaw 78 rfl ?_
  refine r_callXo [] [] (rReach_ok t (mapL l) ms hlt hwl (by omega) hkd) rfl rfl rfl rfl rfl rfl Try.func24 rfl rfl rfl rfl rfl rfl rfl rfl rfl rfl pRchU ?_
  rintro r H1 S1 ⟨rfl, rfl, ob, rfl, hB⟩
  have hab := hA.uniq hB
  subst hab
  skip
  refine r_call (Ints_ok oa (by rw [hA.lo]; exact hlt)) rfl rfl rfl rfl rfl rfl rfl rfl Try.func22 rfl rfl rfl pB ?_
  rintro r S1 ⟨rfl, rfl⟩
  (repeat ((refine r_op ?_; refine r_pure hT rfl rfl rfl rfl rfl rfl ?_)))
  refine r_call (awake23_ok) rfl rfl rfl rfl rfl rfl rfl rfl Try.func14 rfl rfl rfl pB ?_
  rintro r S1 ⟨rfl, rfl⟩
  (repeat (first | refine r_end ?_ | (refine r_op ?_; refine r_pure hT rfl rfl rfl rfl rfl rfl ?_)))
  refine gi_retW hT Try.func3 rfl rfl [] rfl rfl rfl rfl ?_
  exact ⟨rfl, rfl⟩
end Go.Proofs.Ytmocggibcniggaa.Kt
