/- Part of the proofs of this seat's statements: what the functions compute. No condition. -/
import Derived.Test.YtmocggibcniggaaC18M
set_option linter.unusedSimpArgs false
set_option linter.unusedVariables false
namespace Go.Proofs.Ytmocggibcniggaa.Kt
open Go Kw Go.Proofs
attribute [local irreducible] Kw.GI Kw.GR Kw.FnR Kw.FnX
set_option maxHeartbeats 8000000
set_option maxRecDepth 100000
def btI (va vb : Vt) (a b : Nd) : Int := match notB (eqB (cmp3 a.c b.c) 0) with
  | true => cmp3 a.c b.c
  | false => match notB (decide (a.v = b.v)) with
    | true => aheadI a.v b.v
    | false => aheadI va vb
theorem better_ok (t : List Nd) (a b : Nd) (hl : t.length < 1000000) (na nb : Nd) (pa pb : Nat) (ha : a.p = pa) (hb : b.p = pb) (h1 : t[pa]? = some na) (h2 : t[pb]? = some nb) : FnR Try.prog 79 [rsNd t, a.av, b.av] (RB (ltB (btI na.v nb.v a b) 0)) := by
  have hal := (List.getElem?_eq_some_iff.1 h1).1
  have hbl := (List.getElem?_eq_some_iff.1 h2).1
  refine fnR_intro (T := TT) (n := 42) Try.func79 rfl rfl rfl (fun w Z => ?_)
  (repeat (first | refine r_end ?_ | (refine r_op ?_; first | refine r_pure hT rfl rfl rfl rfl rfl rfl ?_ | refine r_load hT rfl rfl rfl rfl rfl rfl rfl rfl rfl ?_ | refine r_box rfl rfl rfl rfl rfl rfl rfl rfl rfl ?_) | refine gi_seq ?_ | refine gi_plain ?_))
  refine r_call (Compare_ok a.c b.c) rfl rfl rfl rfl rfl rfl rfl rfl Try.func66 rfl rfl rfl pI ?_
  rintro r S1 ⟨rfl, rfl⟩
  (repeat (first | refine r_end ?_ | (refine r_op ?_; refine r_pure hT rfl rfl rfl rfl rfl rfl ?_) | refine gi_seq ?_ | refine gi_plain ?_ | refine gi_block ?_))
  apply gi_cut (σ := Unit) (fun _ => [(7, I (btI na.v nb.v a b))]) (fun _ => []) (fun _ => []) (fun _ => True) (fun _ => rfl)
  case first =>
    intro fin
    refine gi_cond rfl (fun c => ?_) (fun c => ?_)
    · have hbt : btI na.v nb.v a b = cmp3 a.c b.c := by unfold btI; rw [c]
      (repeat (first | refine gi_seq ?_ | refine gi_skip ?_ | refine gi_inBlock ?_))
      exact fin () _ _ _ trivial ⟨by rw [hbt]; rfl, trivial⟩ trivial trivial
    (repeat (first | (refine r_op ?_; first | refine r_pure hT rfl rfl rfl rfl rfl rfl ?_ | refine r_load hT rfl rfl rfl rfl rfl rfl rfl rfl rfl ?_) | refine gi_seq ?_ | refine gi_plain ?_))
    refine r_neT _ rfl rfl rfl rfl rfl rfl rfl rfl rfl y_flat_Vt ?_
    (repeat (first | refine r_end ?_ | (refine r_op ?_; refine r_pure hT rfl rfl rfl rfl rfl rfl ?_)))
    refine gi_cond rfl (fun c2 => ?_) (fun c2 => ?_)
    · rw [veq_eq a.v b.v] at c2
      have hbt : btI na.v nb.v a b = aheadI a.v b.v := by unfold btI; rw [c, c2]
      (repeat (first | (refine r_op ?_; first | refine r_pure hT rfl rfl rfl rfl rfl rfl ?_ | refine r_load hT rfl rfl rfl rfl rfl rfl rfl rfl rfl ?_) | refine gi_plain ?_))
      refine r_call (ahead_ok a.v b.v) rfl rfl rfl rfl rfl rfl rfl rfl Try.func95 rfl rfl rfl pI ?_
      rintro r S1 ⟨rfl, rfl⟩
      (repeat (first | refine r_end ?_ | (refine r_op ?_; refine r_pure hT rfl rfl rfl rfl rfl rfl ?_) | refine gi_seq ?_ | refine gi_inBlock ?_))
      exact fin () _ _ _ trivial ⟨by rw [hbt]; rfl, trivial⟩ trivial trivial
    rw [veq_eq a.v b.v] at c2
    have hbt : btI na.v nb.v a b = aheadI na.v nb.v := by unfold btI; rw [c, c2]
    skip
    refine gi_drawM [] [(0, .p), (1, .p), (6, .p), (7, .p), (2, .t), (3, .p), (4, .p), (5, .t), (8, .t), (9, .p), (10, .p), (11, .t), (12, .o), (13, .p)] [0, 0, 2, 5, 8, 16, 0, 0, 128, 320, 512, 1024, 2080, 8191] [0, 0, 2, 5, 8, 16, 0, 0, 128, 320, 512, 1024, 2080, 4096] hm rfl (by kernel_rfl) (fun w1 K => ?_)
    (repeat ((refine r_op ?_; first | refine r_pure hT rfl rfl rfl rfl rfl rfl ?_ | refine r_load hT rfl rfl rfl rfl rfl rfl rfl rfl rfl ?_)))
    refine r_turn (d := 15) (y := I (pa : Int)) rfl (by rw [← ha]) ?_
    refine r_idx (row := na.row) hT rfl rfl rfl rfl rfl rfl rfl rfl rfl rfl rfl rfl (by omega) (by simp [h1]) ?_
    (repeat ((refine r_op ?_; first | refine r_pure hT rfl rfl rfl rfl rfl rfl ?_ | refine r_load hT rfl rfl rfl rfl rfl rfl rfl rfl rfl ?_)))
    refine r_turn (d := 21) (y := I (pb : Int)) rfl (by rw [← hb]) ?_
    refine r_idx (row := nb.row) hT rfl rfl rfl rfl rfl rfl rfl rfl rfl rfl rfl rfl (by omega) (by simp [h2]) ?_
    (repeat ((refine r_op ?_; first | refine r_pure hT rfl rfl rfl rfl rfl rfl ?_ | refine r_load hT rfl rfl rfl rfl rfl rfl rfl rfl rfl ?_)))
    refine r_call (ahead_ok na.v nb.v) rfl rfl rfl rfl rfl rfl rfl rfl Try.func95 rfl rfl rfl pI ?_
    rintro r S1 ⟨rfl, rfl⟩
    (repeat (first | refine r_end ?_ | (refine r_op ?_; refine r_pure hT rfl rfl rfl rfl rfl rfl ?_) | refine gi_seq ?_ | refine gi_inBlock ?_))
    exact fin () _ _ _ trivial ⟨by rw [hbt]; rfl, trivial⟩ trivial trivial
  case after =>
    intro _ _
    (repeat (first | refine r_end ?_ | (refine r_op ?_; refine r_pure hT rfl rfl rfl rfl rfl rfl ?_) | refine gi_plain ?_))
    refine gi_retW hT Try.func79 rfl rfl [] rfl rfl rfl rfl ?_
    exact ⟨rfl, rfl⟩
/-- A router, or a network. -/
def KindOk (v : Vt) : Prop := v.k = 1 ∨ v.k = 2
theorem ahead_first {a b : Vt} (ha : KindOk a) (hb : KindOk b) : ltB (aheadI a b) 0 = firstB a b := by
  unfold aheadI firstB KindOk at *
  simp only [orL, cmp3, ltB_eq, eqB_eq, notB_eq]
  rcases ha with ha | ha <;> rcases hb with hb | hb <;> rw [ha, hb] <;> simp [wr_i64] <;> (split <;> simp_all <;> (try split) <;> simp_all <;> omega)
end Go.Proofs.Ytmocggibcniggaa.Kt
