/- Part of the proofs of this seat's statements: what the functions compute. No condition. -/
import Derived.Test.YtmocggibcniggaaC18D
set_option linter.unusedSimpArgs false
set_option linter.unusedVariables false
namespace Go.Proofs.Ytmocggibcniggaa.Kt
open Go Kw Go.Proofs
attribute [local irreducible] Kw.GI Kw.GR Kw.FnR Kw.FnX
set_option maxHeartbeats 8000000
set_option maxRecDepth 100000
def vS1 (m : List Vt) (x : Ls) : List Vt := match eqB x.kind 1 && eqB x.id x.adv with
  | true => insV m ⟨1, x.id⟩
  | false => m
def vS2 (m : List Vt) (x : Ls) : List Vt := match eqB x.kind 2 with
  | true => insV m ⟨2, x.id⟩
  | false => m
def vS (m : List Vt) (x : Ls) : List Vt := match leB 3600 x.age with
  | true => m
  | false => vS2 (vS1 m x) x
def vertsL (l : List Ls) : List Vt := l.foldl vS []
theorem vS_len (m : List Vt) (x : Ls) : (vS m x).length ≤ m.length + 2 := by
  have h1 : (vS1 m x).length ≤ m.length + 1 := by
    unfold vS1; split
    · exact insV_len m
    · omega
  unfold vS
  split
  · omega
  · unfold vS2; split
    · have := insV_len (v := ⟨2, x.id⟩) (vS1 m x); omega
    · omega
theorem vfold_len : ∀ (l : List Ls) (m : List Vt), (l.foldl vS m).length ≤ m.length + 2 * l.length
  | [], m => by simp
  | x :: l, m => by
    rw [List.foldl_cons]
    have := vfold_len l (vS m x)
    have := vS_len m x
    simp only [List.length_cons]
    omega
theorem verts_ok (l : List Ls) (hl : l.length < 100000) : FnX Try.prog 44 [fsL l] [] [] (RV1 (eV (vertsL l))) := by
  refine fnX_intro (T := TT) (n := 44) Try.func44 rfl rfl rfl (fun w X Z Y B => ?_)
  (repeat (first | refine r_end ?_ | (refine r_op ?_; refine r_pure hT rfl rfl rfl rfl rfl rfl ?_) | refine gi_seq ?_ | refine gi_plain ?_ | refine gi_block ?_))
  refine gi_thaw 0 rfl ?_
  refine gi_adopt (e := 34) (sz := 2) 3 rfl ?_
  refine gi_loop (σ := Nat) (fun j => [(4, I j), (3, .sl 0), (0, .r (.rs 12 (l.map Ls.row)))]) (fun _ => []) (fun j => [eV (vertsL (l.take j))]) (fun j => j ≤ l.length) (fun j => l.length - j) 0 (Nat.zero_le _) ⟨rfl, rfl, rfl, trivial⟩ trivial ⟨rfl, trivial⟩ (fun _ => rfl) (fun j hj next => ?_)
  have hj : j ≤ l.length := hj
  (repeat (first | refine r_end ?_ | (refine r_op ?_; refine r_pure hT rfl rfl rfl rfl rfl rfl ?_) | refine gi_seq ?_ | refine gi_plain ?_))
  refine gi_lt (q := ((l.map Ls.row).length : Int)) rfl (fun h3 => ?_) (fun h3 => ?_)
  · rw [List.length_map] at h3
    have hjl : j < l.length := by omega
    obtain ⟨x, hx⟩ : ∃ x, l[j]? = some x := ⟨_, List.getElem?_eq_getElem hjl⟩
    have hft : vertsL (l.take (j + 1)) = vS (vertsL (l.take j)) x := fold_take vS [] hx
    have hml : (vertsL (l.take j)).length ≤ 2 * j := by
      have := vfold_len (l.take j) []
      rw [List.length_take] at this
      simp only [List.length_nil] at this
      have h2 : (vertsL (l.take j)).length ≤ 0 + 2 * min j l.length := this
      omega
    obtain ⟨m, hm⟩ : ∃ m, m = vertsL (l.take j) := ⟨_, rfl⟩
    rw [← hm] at hft hml
    rw [← hm]
    have fin : ∀ m', m' = vS m x → ∀ F1 H1 S1, SubF [(4, I (wr .i64 ((j : Int) + 1))), (3, .sl 0), (0, .r (.rs 12 (l.map Ls.row)))] F1 → SubH [] H1 → SubS [eV m'] S1 → GI _ _ F1 H1 S1 := fun m' h F1 H1 S1 hF hH hS => by
      refine next (j + 1) F1 H1 S1 hjl (by omega) ?_ hH (by rw [hft, ← h]; exact hS)
      rw [wr_i64 (by omega) (by omega)] at hF
      simpa using hF
    (repeat (first | (refine r_op ?_; refine r_pure hT rfl rfl rfl rfl rfl rfl ?_) | refine gi_seq ?_ | refine gi_plain ?_ | refine gi_skip ?_ | refine gi_block ?_))
    refine r_idx (row := x.row) hT rfl rfl rfl rfl rfl rfl rfl rfl rfl rfl rfl rfl (by omega) (by simp [hx]) ?_
    (repeat (first | refine r_end ?_ | (refine r_op ?_; first | refine r_pure hT rfl rfl rfl rfl rfl rfl ?_ | refine r_load hT rfl rfl rfl rfl rfl rfl rfl rfl rfl ?_ | refine r_store hT rfl rfl rfl rfl rfl rfl rfl rfl rfl rfl ?_ | refine r_alloc hT rfl rfl rfl rfl rfl rfl rfl rfl rfl ?_) | refine gi_seq ?_ | refine gi_plain ?_))
    refine gi_cond rfl (fun c1 => ?_) (fun c1 => ?_)
    · (repeat (first | refine r_end ?_ | (refine r_op ?_; refine r_pure hT rfl rfl rfl rfl rfl rfl ?_) | refine gi_plain ?_ | refine gi_exit rfl ?_))
      exact fin m (by unfold vS; rw [c1]) _ _ _ ⟨rfl, rfl, rfl, trivial⟩ trivial ⟨rfl, trivial⟩
    have hv1 : vS m x = vS2 (vS1 m x) x := by unfold vS; rw [c1]
    have hm1 : (vS1 m x).length ≤ m.length + 1 := by
      unfold vS1; split
      · exact insV_len m
      · omega
    apply gi_cut (σ := Unit) (fun _ => [(5, .box 0 0), (4, I j), (3, .sl 0), (0, .r (.rs 12 (l.map Ls.row)))]) (fun _ => [hHd x]) (fun _ => [eV (vS1 m x)]) (fun _ => True) (fun _ => rfl)
    case first =>
      intro fn
      (repeat (first | (refine r_op ?_; first | refine r_pure hT rfl rfl rfl rfl rfl rfl ?_ | refine r_load hT rfl rfl rfl rfl rfl rfl rfl rfl rfl ?_) | refine gi_seq ?_ | refine gi_plain ?_ | refine gi_skip ?_))
      refine r_case (d := 23) rfl (fun c2 => ?_) (fun c2 => ?_)
      · (repeat (first | refine r_end ?_ | (refine r_op ?_; first | refine r_pure hT rfl rfl rfl rfl rfl rfl ?_ | refine r_load hT rfl rfl rfl rfl rfl rfl rfl rfl rfl ?_)))
        refine gi_cond rfl (fun c3 => ?_) (fun c3 => ?_)
        · (repeat (first | (refine r_op ?_; first | refine r_pure hT rfl rfl rfl rfl rfl rfl ?_ | refine r_load hT rfl rfl rfl rfl rfl rfl rfl rfl rfl ?_) | refine gi_plain ?_))
          refine r_callX [] [0] (Vert_ok m ⟨1, x.id⟩ (by omega)) rfl rfl rfl rfl rfl rfl Try.func52 rfl rfl rfl rfl rfl rfl rfl pV1 ?_
          rintro r H1 S1 ⟨rfl, rfl, rfl⟩
          (repeat (first | refine r_end ?_ | (refine r_op ?_; refine r_pure hT rfl rfl rfl rfl rfl rfl ?_) | refine gi_seq ?_))
          refine gi_pick [0] [1] rfl rfl rfl rfl rfl ?_
          exact fn () _ _ _ trivial ⟨rfl, rfl, rfl, rfl, trivial⟩ ⟨rfl, trivial⟩ ⟨by unfold vS1; rw [c2, c3]; rfl, trivial⟩
        · (repeat (first | refine gi_seq ?_ | refine gi_skip ?_))
          exact fn () _ _ _ trivial ⟨rfl, rfl, rfl, rfl, trivial⟩ ⟨rfl, trivial⟩ ⟨by unfold vS1; rw [c2, c3]; rfl, trivial⟩
      · (repeat (first | refine r_end ?_ | (refine r_op ?_; first | refine r_pure hT rfl rfl rfl rfl rfl rfl ?_ | refine r_off rfl rfl rfl rfl rfl ?_) | refine gi_seq ?_ | refine gi_skip ?_ | (refine gi_cnd ?_; first | refine gi_true rfl ?_ | refine gi_false rfl ?_)))
        exact fn () _ _ _ trivial ⟨rfl, rfl, rfl, rfl, trivial⟩ ⟨rfl, trivial⟩ ⟨by unfold vS1; rw [c2]; rfl, trivial⟩
    case after =>
      intro _ _
      (repeat (first | refine r_end ?_ | (refine r_op ?_; first | refine r_pure hT rfl rfl rfl rfl rfl rfl ?_ | refine r_load hT rfl rfl rfl rfl rfl rfl rfl rfl rfl ?_) | refine gi_plain ?_))
      refine gi_cond rfl (fun c4 => ?_) (fun c4 => ?_)
      · (repeat (first | (refine r_op ?_; first | refine r_pure hT rfl rfl rfl rfl rfl rfl ?_ | refine r_load hT rfl rfl rfl rfl rfl rfl rfl rfl rfl ?_) | refine gi_plain ?_))
        refine r_callX [] [0] (Vert_ok (vS1 m x) ⟨2, x.id⟩ (by omega)) rfl rfl rfl rfl rfl rfl Try.func52 rfl rfl rfl rfl rfl rfl rfl pV1 ?_
        rintro r H1 S1 ⟨rfl, rfl, rfl⟩
        (repeat (first | refine r_end ?_ | (refine r_op ?_; refine r_pure hT rfl rfl rfl rfl rfl rfl ?_) | refine gi_plain ?_ | refine gi_inBlock ?_))
        refine gi_pick [] [1] rfl rfl rfl rfl rfl ?_
        exact fin _ (by rw [hv1]; unfold vS2; rw [c4]) _ _ _ ⟨rfl, rfl, rfl, trivial⟩ trivial ⟨rfl, trivial⟩
      · (repeat (first | refine r_end ?_ | (refine r_op ?_; refine r_pure hT rfl rfl rfl rfl rfl rfl ?_) | refine gi_plain ?_ | refine gi_skip ?_ | refine gi_inBlock ?_))
        exact fin _ (by rw [hv1]; unfold vS2; rw [c4]) _ _ _ ⟨rfl, rfl, rfl, trivial⟩ trivial ⟨rfl, trivial⟩
  · rw [List.length_map] at h3
    have hjl : j = l.length := by omega
    subst hjl
    rw [List.take_length]
    (repeat (first | refine r_end ?_ | (refine r_op ?_; refine r_pure hT rfl rfl rfl rfl rfl rfl ?_) | refine gi_seq ?_ | refine gi_plain ?_ | refine gi_exit rfl ?_))
    refine gi_retX hT Try.func44 rfl [] [0] rfl rfl rfl rfl rfl rfl rfl rfl ?_
    exact ⟨rfl, rfl, rfl⟩
end Go.Proofs.Ytmocggibcniggaa.Kt
