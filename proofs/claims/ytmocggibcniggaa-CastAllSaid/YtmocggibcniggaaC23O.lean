/- Part of the proofs of this seat's statements: what the functions compute. No condition. -/
import Derived.Test.YtmocggibcniggaaC23N
import Derived.Test.YtmocggibcniggaaC23O0
set_option linter.unusedSimpArgs false
set_option linter.unusedVariables false
namespace Go.Proofs.Ytmocggibcniggaa.Kt
open Go Kw Go.Proofs
attribute [local irreducible] Kw.GI Kw.GR Kw.FnR Kw.FnX
set_option maxHeartbeats 8000000
set_option maxRecDepth 100000
/-- The tree from where an address is. -/
def castT (m : Mp) (s : Src) : List Nd := if s.ok = true then refTree m s.v else []
theorem rCast_ok (l : List Ls) (hf : Few l) (a : Int) (h1 : (mapL l).sn.length < 1000000) (h2 : (mapL l).sb.length < 100000000) : FnX Try.prog 19 [avMf (mapL l), I a] [] [] (RV1 (eNd (castT (mapL l) (xrcF a (mapL l)).told))) := by
  refine fnX_intro (T := TT) (n := 22) Try.func19 rfl rfl rfl (fun w X Z Y B => ?_)
  (repeat (first | refine r_end ?_ | (refine r_op ?_; first | refine r_pure hT rfl rfl rfl rfl rfl rfl ?_ | refine r_load hT rfl rfl rfl rfl rfl rfl rfl rfl rfl ?_ | refine r_box rfl rfl rfl rfl rfl rfl rfl rfl rfl ?_) | refine gi_seq ?_ | refine gi_plain ?_))
  refine r_call (rSource_ok (mapL l) a h1 h2) rfl rfl rfl rfl rfl rfl rfl rfl Try.func17 rfl rfl rfl pSrc ?_
  rintro r S1 ⟨rfl, rfl⟩
  generalize (xrcF a (mapL l)).told = s
  (repeat (first | refine r_end ?_ | (refine r_op ?_; first | refine r_pure hT rfl rfl rfl rfl rfl rfl ?_ | refine r_store hT rfl rfl rfl rfl rfl rfl rfl rfl rfl rfl ?_ | refine r_alloc hT rfl rfl rfl rfl rfl rfl rfl rfl rfl ?_) | refine gi_seq ?_ | refine gi_plain ?_))
  refine gi_cond rfl (fun c1 => ?_) (fun c1 => ?_)
  · rw [notB_eq, Bool.not_eq_true'] at c1
    (repeat (first | refine r_end ?_ | (refine r_op ?_; refine r_pure hT rfl rfl rfl rfl rfl rfl ?_) | refine gi_seq ?_ | refine gi_plain ?_))
    refine gi_adopt (e := 58) (sz := 5) 4 rfl ?_
    refine gi_retX hT Try.func19 rfl [] [0] rfl rfl rfl rfl rfl rfl rfl rfl ?_
    refine ⟨rfl, rfl, ?_⟩
    unfold castT
    rw [if_neg (by rw [c1]; decide)]
    rfl
  · rw [notB_eq, Bool.not_eq_false'] at c1
    (repeat (first | (refine r_op ?_; refine r_load hT rfl rfl rfl rfl rfl rfl rfl rfl rfl ?_) | refine gi_seq ?_ | refine gi_plain ?_ | refine gi_skip ?_))
    refine r_call (rTreeL l s.v hf) rfl rfl rfl rfl rfl rfl rfl rfl Try.func50 rfl rfl rfl pT1 ?_
    rintro r S1 ⟨rfl, rfl⟩
    (repeat (first | refine r_end ?_ | (refine r_op ?_; refine r_pure hT rfl rfl rfl rfl rfl rfl ?_)))
    refine gi_retX hT Try.func19 rfl [] [0] rfl rfl rfl rfl rfl rfl rfl rfl ?_
    refine ⟨rfl, rfl, ?_⟩
    unfold castT
    rw [if_pos c1]
theorem pTreeC_ok (l : List Ls) (hf : Few l) (a : Int) (h1 : (mapL l).sn.length < 1000000) (h2 : (mapL l).sb.length < 100000000) : FnX Try.prog 18 [avMf (mapL l), I a] [] [] (RV1 (eNd (castT (mapL l) (srcF a (mapL l))))) := by
  refine fnX_intro (T := TT) (n := 22) Try.func18 rfl rfl rfl (fun w X Z Y B => ?_)
  (repeat (first | refine r_end ?_ | (refine r_op ?_; first | refine r_pure hT rfl rfl rfl rfl rfl rfl ?_ | refine r_load hT rfl rfl rfl rfl rfl rfl rfl rfl rfl ?_ | refine r_box rfl rfl rfl rfl rfl rfl rfl rfl rfl ?_) | refine gi_seq ?_ | refine gi_plain ?_))
  refine r_call (pSource_ok (mapL l) a h1 h2) rfl rfl rfl rfl rfl rfl rfl rfl Try.func16 rfl rfl rfl pSrc ?_
  rintro r S1 ⟨rfl, rfl⟩
  generalize srcF a (mapL l) = s
  (repeat (first | refine r_end ?_ | (refine r_op ?_; first | refine r_pure hT rfl rfl rfl rfl rfl rfl ?_ | refine r_store hT rfl rfl rfl rfl rfl rfl rfl rfl rfl rfl ?_ | refine r_alloc hT rfl rfl rfl rfl rfl rfl rfl rfl rfl ?_) | refine gi_seq ?_ | refine gi_plain ?_))
  refine gi_cond rfl (fun c1 => ?_) (fun c1 => ?_)
  · rw [notB_eq, Bool.not_eq_true'] at c1
    (repeat (first | refine r_end ?_ | (refine r_op ?_; refine r_pure hT rfl rfl rfl rfl rfl rfl ?_) | refine gi_seq ?_ | refine gi_plain ?_))
    refine gi_adopt (e := 58) (sz := 5) 4 rfl ?_
    refine gi_retX hT Try.func18 rfl [] [0] rfl rfl rfl rfl rfl rfl rfl rfl ?_
    refine ⟨rfl, rfl, ?_⟩
    unfold castT
    rw [if_neg (by rw [c1]; decide)]
    rfl
  · rw [notB_eq, Bool.not_eq_false'] at c1
    (repeat (first | (refine r_op ?_; refine r_load hT rfl rfl rfl rfl rfl rfl rfl rfl rfl ?_) | refine gi_seq ?_ | refine gi_plain ?_ | refine gi_skip ?_))
    refine r_call (pTreeLC l s.v hf) rfl rfl rfl rfl rfl rfl rfl rfl Try.func49 rfl rfl rfl pT1 ?_
    rintro r S1 ⟨rfl, rfl⟩
    (repeat (first | refine r_end ?_ | (refine r_op ?_; refine r_pure hT rfl rfl rfl rfl rfl rfl ?_)))
    refine gi_retX hT Try.func18 rfl [] [0] rfl rfl rfl rfl rfl rfl rfl rfl ?_
    refine ⟨rfl, rfl, ?_⟩
    unfold castT
    rw [if_pos c1]
end Go.Proofs.Ytmocggibcniggaa.Kt
