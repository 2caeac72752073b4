/- Part of the proofs of this seat's statements: what the functions compute. No condition. -/
import Derived.Test.YtmocggibcniggaaC23G
set_option linter.unusedSimpArgs false
set_option linter.unusedVariables false
namespace Go.Proofs.Ytmocggibcniggaa.Kt
open Go Kw Go.Proofs
attribute [local irreducible] Kw.GI Kw.GR Kw.FnR Kw.FnX
set_option maxHeartbeats 8000000
set_option maxRecDepth 100000
/-! ### the reference's addresses -/
theorem rRight_ok (a : Int) : FnR Try.prog 59 [I a] (RB (okA a)) := by
  refine fnR_intro (T := TT) (n := 9) Try.func59 rfl rfl rfl (fun w Z => ?_)
  (repeat (first | refine r_end ?_ | (refine r_op ?_; refine r_pure hT rfl rfl rfl rfl rfl rfl ?_) | refine gi_seq ?_ | refine gi_plain ?_))
  refine r_case (d := 5) rfl (fun h => ?_) (fun h => ?_)
  · (repeat (first | refine r_end ?_ | (refine r_op ?_; refine r_pure hT rfl rfl rfl rfl rfl rfl ?_)))
    refine gi_retW hT Try.func59 rfl rfl [] rfl rfl rfl rfl ?_
    exact ⟨by unfold okA; rw [h]; rfl, rfl⟩
  · (repeat (first | refine r_end ?_ | (refine r_op ?_; first | refine r_pure hT rfl rfl rfl rfl rfl rfl ?_ | refine r_off rfl rfl rfl rfl rfl ?_)))
    refine gi_retW hT Try.func59 rfl rfl [] rfl rfl rfl rfl ?_
    exact ⟨by unfold okA; rw [h]; rfl, rfl⟩
def inR (a p b : Int) : Bool := okA a && (okA p && (leB 0 b && (leB b 32 && eqB (netF a b) (netF p b))))
theorem rIn_ok (a p b : Int) : FnR Try.prog 26 [I a, I p, I b] (RB (inR a p b)) := by
  have done : ∀ {x : Bool}, x = inR a p b → Bo x = Bo (inR a p b) := fun h => by rw [h]
  refine fnR_intro (T := TT) (n := 30) Try.func26 rfl rfl rfl (fun w Z => ?_)
  (repeat (first | refine r_end ?_ | (refine r_op ?_; refine r_pure hT rfl rfl rfl rfl rfl rfl ?_) | refine gi_seq ?_ | refine gi_plain ?_))
  refine r_call (rRight_ok a) rfl rfl rfl rfl rfl rfl rfl rfl Try.func59 rfl rfl rfl pB ?_
  rintro r S1 ⟨rfl, rfl⟩
  (repeat ((refine r_op ?_; refine r_pure hT rfl rfl rfl rfl rfl rfl ?_)))
  refine r_case (d := 9) rfl (fun h1 => ?_) (fun h1 => ?_)
  · (repeat ((refine r_op ?_; refine r_pure hT rfl rfl rfl rfl rfl rfl ?_)))
    refine r_call (rRight_ok p) rfl rfl rfl rfl rfl rfl rfl rfl Try.func59 rfl rfl rfl pB ?_
    rintro r S1 ⟨rfl, rfl⟩
    (repeat ((refine r_op ?_; refine r_pure hT rfl rfl rfl rfl rfl rfl ?_)))
    refine r_case (d := 13) rfl (fun h2 => ?_) (fun h2 => ?_)
    · (repeat ((refine r_op ?_; refine r_pure hT rfl rfl rfl rfl rfl rfl ?_)))
      refine r_case (d := 17) rfl (fun h3 => ?_) (fun h3 => ?_)
      · (repeat ((refine r_op ?_; refine r_pure hT rfl rfl rfl rfl rfl rfl ?_)))
        refine r_case (d := 21) rfl (fun h4 => ?_) (fun h4 => ?_)
        · (repeat ((refine r_op ?_; refine r_pure hT rfl rfl rfl rfl rfl rfl ?_)))
          refine r_call (Net_ok a b) rfl rfl rfl rfl rfl rfl rfl rfl Try.func27 rfl rfl rfl pI ?_
          rintro r S1 ⟨rfl, rfl⟩
          (repeat ((refine r_op ?_; refine r_pure hT rfl rfl rfl rfl rfl rfl ?_)))
          refine r_call (Net_ok p b) rfl rfl rfl rfl rfl rfl rfl rfl Try.func27 rfl rfl rfl pI ?_
          rintro r S1 ⟨rfl, rfl⟩
          (repeat (first | refine r_end ?_ | (refine r_op ?_; refine r_pure hT rfl rfl rfl rfl rfl rfl ?_)))
          refine gi_retW hT Try.func26 rfl rfl [] rfl rfl rfl rfl ?_
          exact ⟨by unfold inR; rw [h1, h2, h3, h4]; rfl, rfl⟩
        · (repeat (first | refine r_end ?_ | (refine r_op ?_; first | refine r_pure hT rfl rfl rfl rfl rfl rfl ?_ | refine r_off rfl rfl rfl rfl rfl ?_)))
          refine gi_retW hT Try.func26 rfl rfl [] rfl rfl rfl rfl ?_
          exact ⟨by unfold inR; rw [h1, h2, h3, h4]; rfl, rfl⟩
      · (repeat (first | refine r_end ?_ | (refine r_op ?_; first | refine r_pure hT rfl rfl rfl rfl rfl rfl ?_ | refine r_off rfl rfl rfl rfl rfl ?_)))
        refine gi_retW hT Try.func26 rfl rfl [] rfl rfl rfl rfl ?_
        exact ⟨by unfold inR; rw [h1, h2, h3]; rfl, rfl⟩
    · (repeat (first | refine r_end ?_ | (refine r_op ?_; first | refine r_pure hT rfl rfl rfl rfl rfl rfl ?_ | refine r_off rfl rfl rfl rfl rfl ?_)))
      refine gi_retW hT Try.func26 rfl rfl [] rfl rfl rfl rfl ?_
      exact ⟨by unfold inR; rw [h1, h2]; rfl, rfl⟩
  · (repeat (first | refine r_end ?_ | (refine r_op ?_; first | refine r_pure hT rfl rfl rfl rfl rfl rfl ?_ | refine r_off rfl rfl rfl rfl rfl ?_)))
    refine gi_retW hT Try.func26 rfl rfl [] rfl rfl rfl rfl ?_
    exact ⟨by unfold inR; rw [h1]; rfl, rfl⟩

def xSn (a : Int) (st : Src) (s : Sn) : Src := if inR a s.p s.b = true ∧ st.b < s.b then ⟨s.v, s.p, s.b, true⟩ else st
def xSb (a : Int) (st : Src) (s : Sb) : Src := if inR a s.p s.b = true ∧ st.b < s.b then ⟨⟨1, s.r⟩, s.p, s.b, true⟩ else st
def z1 : Src := ⟨⟨0, 0⟩, 0, -1, false⟩
def xrcF (a : Int) (m : Mp) : Src := m.sb.foldl (xSb a) (m.sn.foldl (xSn a) z1)
/-- What is told of it. -/
def Src.told (s : Src) : Src := if s.b < 0 then z0 else ⟨s.v, s.p, s.b, true⟩
theorem rSource_ok (m : Mp) (a : Int) (h1 : m.sn.length < 1000000) (h2 : m.sb.length < 100000000) : FnR Try.prog 17 [avMf m, I a] (fun r S => r = (xrcF a m).told.av ∧ S = []) := by
  refine fnR_intro (T := TT) (n := 83) Try.func17 rfl rfl rfl (fun w Z => ?_)
  (repeat (first | refine r_end ?_ | (refine r_op ?_; first | refine r_pure hT rfl rfl rfl rfl rfl rfl ?_ | refine r_box rfl rfl rfl rfl rfl rfl rfl rfl rfl ?_ | refine r_store hT rfl rfl rfl rfl rfl rfl rfl rfl rfl rfl ?_ | refine r_alloc hT rfl rfl rfl rfl rfl rfl rfl rfl rfl ?_) | refine gi_seq ?_ | refine gi_plain ?_ | refine gi_block ?_))
  refine gi_loop (σ := Nat × Src) (fun s => [(11, I (s.1 : Int)), (2, .box 0 0), (4, .box 1 0), (8, .box 2 0), (1, I a), (9, I s.2.p), (10, I s.2.b)]) (fun s => [hMf m, hV ⟨0, 0⟩, hV s.2.v]) (fun _ => []) (fun s => s.1 ≤ m.sn.length ∧ s.2 = (m.sn.take s.1).foldl (xSn a) z1) (fun s => m.sn.length - s.1) (0, z1) ⟨Nat.zero_le _, rfl⟩ ⟨rfl, rfl, rfl, rfl, rfl, rfl, rfl, trivial⟩ ⟨rfl, rfl, rfl, trivial⟩ trivial (fun _ => rfl) (fun s hs next => ?_)
  obtain ⟨i, st⟩ := s
  obtain ⟨hi, hst⟩ := hs
  simp only at hi hst
  (repeat (first | refine r_end ?_ | (refine r_op ?_; first | refine r_pure hT rfl rfl rfl rfl rfl rfl ?_ | refine r_load hT rfl rfl rfl rfl rfl rfl rfl rfl rfl ?_) | refine gi_seq ?_ | refine gi_plain ?_))
  refine gi_lt (p := (i : Int)) (q := ((m.sn.map Sn.row).length : Int)) rfl (fun h3 => ?_) (fun h3 => ?_)
  · rw [List.length_map] at h3
    obtain ⟨x, hx⟩ : ∃ x, m.sn[i]? = some x := ⟨_, List.getElem?_eq_getElem (by omega)⟩
    have go : ∀ st', st' = xSn a st x → ∀ F1 H1 S1, SubF [(11, I (wr .i64 ((i : Int) + 1))), (2, .box 0 0), (4, .box 1 0), (8, .box 2 0), (1, I a), (9, I st'.p), (10, I st'.b)] F1 → SubH [hMf m, hV ⟨0, 0⟩, hV st'.v] H1 → SubS [] S1 → GI _ _ F1 H1 S1 := fun st' hst' F1 H1 S1 hF hH hS => by
      refine next (i + 1, st') F1 H1 S1 ⟨by simp only; omega, by simp only; rw [foldl_tk hx, ← hst, hst']⟩ (by simp only; omega) ?_ hH hS
      rw [wr_i64 (by omega) (by omega)] at hF
      simpa using hF
    clear next
    (repeat (first | (refine r_op ?_; first | refine r_pure hT rfl rfl rfl rfl rfl rfl ?_ | refine r_load hT rfl rfl rfl rfl rfl rfl rfl rfl rfl ?_) | refine gi_seq ?_ | refine gi_plain ?_ | refine gi_skip ?_ | refine gi_block ?_))
    refine r_thaw 24 rfl ?_
    refine r_idx (row := x.row) hT rfl rfl rfl rfl rfl rfl rfl rfl rfl rfl rfl rfl (by show (0 : Int) ≤ (i : Int); omega) (by simp [hx]) ?_
    (repeat (first | refine r_end ?_ | (refine r_op ?_; first | refine r_pure hT rfl rfl rfl rfl rfl rfl ?_ | refine r_load hT rfl rfl rfl rfl rfl rfl rfl rfl rfl ?_ | refine r_store hT rfl rfl rfl rfl rfl rfl rfl rfl rfl rfl ?_ | refine r_alloc hT rfl rfl rfl rfl rfl rfl rfl rfl rfl ?_) | refine gi_seq ?_ | refine gi_plain ?_))
    refine r_call (rIn_ok a x.p x.b) rfl rfl rfl rfl rfl rfl rfl rfl Try.func26 rfl rfl rfl pB ?_
    rintro r S1 ⟨rfl, rfl⟩
    (repeat ((refine r_op ?_; refine r_pure hT rfl rfl rfl rfl rfl rfl ?_)))
    refine r_case (d := 34) rfl (fun c1 => ?_) (fun c1 => ?_)
    · (repeat (first | refine r_end ?_ | (refine r_op ?_; first | refine r_pure hT rfl rfl rfl rfl rfl rfl ?_ | refine r_load hT rfl rfl rfl rfl rfl rfl rfl rfl rfl ?_)))
      refine gi_lt rfl (fun c3 => ?_) (fun c3 => ?_)
      · have hs1 : (⟨x.v, x.p, x.b, true⟩ : Src) = xSn a st x := (if_pos ⟨c1, c3⟩).symm
        (repeat (first | refine r_end ?_ | (refine r_op ?_; first | refine r_pure hT rfl rfl rfl rfl rfl rfl ?_ | refine r_load hT rfl rfl rfl rfl rfl rfl rfl rfl rfl ?_ | refine r_store hT rfl rfl rfl rfl rfl rfl rfl rfl rfl rfl ?_) | refine gi_seq ?_ | refine gi_plain ?_ | refine gi_inBlock ?_))
        exact go _ hs1 _ _ _ ⟨rfl, rfl, rfl, rfl, rfl, rfl, rfl, trivial⟩ ⟨rfl, rfl, rfl, trivial⟩ trivial
      · have hs1 : st = xSn a st x := (if_neg (fun h => c3 h.2)).symm
        (repeat (first | refine r_end ?_ | (refine r_op ?_; refine r_pure hT rfl rfl rfl rfl rfl rfl ?_) | refine gi_plain ?_ | refine gi_skip ?_ | refine gi_inBlock ?_))
        exact go _ hs1 _ _ _ ⟨rfl, rfl, rfl, rfl, rfl, rfl, rfl, trivial⟩ ⟨rfl, rfl, rfl, trivial⟩ trivial
    · have hs1 : st = xSn a st x := (if_neg (fun h => by rw [c1] at h; cases h.1)).symm
      (repeat (first | refine r_end ?_ | (refine r_op ?_; first | refine r_pure hT rfl rfl rfl rfl rfl rfl ?_ | refine r_off rfl rfl rfl rfl rfl ?_) | refine gi_plain ?_ | refine gi_skip ?_ | refine gi_inBlock ?_ | (refine gi_cnd ?_; first | refine gi_true rfl ?_ | refine gi_false rfl ?_)))
      exact go _ hs1 _ _ _ ⟨rfl, rfl, rfl, rfl, rfl, rfl, rfl, trivial⟩ ⟨rfl, rfl, rfl, trivial⟩ trivial
  · rw [List.length_map] at h3
    have hil : i = m.sn.length := by omega
    subst hil
    rw [List.take_length] at hst
    clear next
    (repeat (first | refine r_end ?_ | (refine r_op ?_; refine r_pure hT rfl rfl rfl rfl rfl rfl ?_) | refine gi_seq ?_ | refine gi_plain ?_ | refine gi_block ?_ | refine gi_exit rfl ?_))
    refine gi_loop (σ := Nat × Src) (fun s => [(13, I (s.1 : Int)), (2, .box 0 0), (4, .box 1 0), (8, .box 2 0), (1, I a), (9, I s.2.p), (10, I s.2.b)]) (fun s => [hMf m, hV ⟨0, 0⟩, hV s.2.v]) (fun _ => []) (fun s => s.1 ≤ m.sb.length ∧ s.2 = (m.sb.take s.1).foldl (xSb a) st) (fun s => m.sb.length - s.1) (0, st) ⟨Nat.zero_le _, rfl⟩ ⟨rfl, rfl, rfl, rfl, rfl, rfl, rfl, trivial⟩ ⟨rfl, rfl, rfl, trivial⟩ trivial (fun _ => rfl) (fun s hs next => ?_)
    obtain ⟨i, su⟩ := s
    obtain ⟨hi, hsu⟩ := hs
    simp only at hi hsu
    (repeat (first | refine r_end ?_ | (refine r_op ?_; first | refine r_pure hT rfl rfl rfl rfl rfl rfl ?_ | refine r_load hT rfl rfl rfl rfl rfl rfl rfl rfl rfl ?_) | refine gi_seq ?_ | refine gi_plain ?_))
    refine gi_lt (p := (i : Int)) (q := ((m.sb.map Sb.row).length : Int)) rfl (fun h3 => ?_) (fun h3 => ?_)
    · rw [List.length_map] at h3
      obtain ⟨x, hx⟩ : ∃ x, m.sb[i]? = some x := ⟨_, List.getElem?_eq_getElem (by omega)⟩
      have go : ∀ st', st' = xSb a su x → ∀ F1 H1 S1, SubF [(13, I (wr .i64 ((i : Int) + 1))), (2, .box 0 0), (4, .box 1 0), (8, .box 2 0), (1, I a), (9, I st'.p), (10, I st'.b)] F1 → SubH [hMf m, hV ⟨0, 0⟩, hV st'.v] H1 → SubS [] S1 → GI _ _ F1 H1 S1 := fun st' hst' F1 H1 S1 hF hH hS => by
        refine next (i + 1, st') F1 H1 S1 ⟨by simp only; omega, by simp only; rw [foldl_tk hx, ← hsu, hst']⟩ (by simp only; omega) ?_ hH hS
        rw [wr_i64 (by omega) (by omega)] at hF
        simpa using hF
      clear next
      (repeat (first | (refine r_op ?_; first | refine r_pure hT rfl rfl rfl rfl rfl rfl ?_ | refine r_load hT rfl rfl rfl rfl rfl rfl rfl rfl rfl ?_) | refine gi_seq ?_ | refine gi_plain ?_ | refine gi_skip ?_ | refine gi_block ?_))
      refine r_thaw 54 rfl ?_
      refine r_idx (row := x.row) hT rfl rfl rfl rfl rfl rfl rfl rfl rfl rfl rfl rfl (by show (0 : Int) ≤ (i : Int); omega) (by simp [hx]) ?_
      (repeat (first | refine r_end ?_ | (refine r_op ?_; first | refine r_pure hT rfl rfl rfl rfl rfl rfl ?_ | refine r_load hT rfl rfl rfl rfl rfl rfl rfl rfl rfl ?_ | refine r_store hT rfl rfl rfl rfl rfl rfl rfl rfl rfl rfl ?_ | refine r_alloc hT rfl rfl rfl rfl rfl rfl rfl rfl rfl ?_) | refine gi_seq ?_ | refine gi_plain ?_))
      refine r_call (rIn_ok a x.p x.b) rfl rfl rfl rfl rfl rfl rfl rfl Try.func26 rfl rfl rfl pB ?_
      rintro r S1 ⟨rfl, rfl⟩
      (repeat ((refine r_op ?_; refine r_pure hT rfl rfl rfl rfl rfl rfl ?_)))
      refine r_case (d := 64) rfl (fun c1 => ?_) (fun c1 => ?_)
      · (repeat (first | refine r_end ?_ | (refine r_op ?_; first | refine r_pure hT rfl rfl rfl rfl rfl rfl ?_ | refine r_load hT rfl rfl rfl rfl rfl rfl rfl rfl rfl ?_)))
        refine gi_lt rfl (fun c3 => ?_) (fun c3 => ?_)
        · have hs1 : (⟨⟨1, x.r⟩, x.p, x.b, true⟩ : Src) = xSb a su x := (if_pos ⟨c1, c3⟩).symm
          (repeat (first | refine r_end ?_ | (refine r_op ?_; first | refine r_pure hT rfl rfl rfl rfl rfl rfl ?_ | refine r_load hT rfl rfl rfl rfl rfl rfl rfl rfl rfl ?_ | refine r_store hT rfl rfl rfl rfl rfl rfl rfl rfl rfl rfl ?_) | refine gi_seq ?_ | refine gi_plain ?_ | refine gi_inBlock ?_))
          exact go _ hs1 _ _ _ ⟨rfl, rfl, rfl, rfl, rfl, rfl, rfl, trivial⟩ ⟨rfl, rfl, rfl, trivial⟩ trivial
        · have hs1 : su = xSb a su x := (if_neg (fun h => c3 h.2)).symm
          (repeat (first | refine r_end ?_ | (refine r_op ?_; refine r_pure hT rfl rfl rfl rfl rfl rfl ?_) | refine gi_plain ?_ | refine gi_skip ?_ | refine gi_inBlock ?_))
          exact go _ hs1 _ _ _ ⟨rfl, rfl, rfl, rfl, rfl, rfl, rfl, trivial⟩ ⟨rfl, rfl, rfl, trivial⟩ trivial
      · have hs1 : su = xSb a su x := (if_neg (fun h => by rw [c1] at h; cases h.1)).symm
        (repeat (first | refine r_end ?_ | (refine r_op ?_; first | refine r_pure hT rfl rfl rfl rfl rfl rfl ?_ | refine r_off rfl rfl rfl rfl rfl ?_) | refine gi_plain ?_ | refine gi_skip ?_ | refine gi_inBlock ?_ | (refine gi_cnd ?_; first | refine gi_true rfl ?_ | refine gi_false rfl ?_)))
        exact go _ hs1 _ _ _ ⟨rfl, rfl, rfl, rfl, rfl, rfl, rfl, trivial⟩ ⟨rfl, rfl, rfl, trivial⟩ trivial
    · rw [List.length_map] at h3
      have hil : i = m.sb.length := by omega
      subst hil
      rw [List.take_length] at hsu
      have hfin : su = xrcF a m := by unfold xrcF; rw [hsu, hst]
      clear next
      (repeat (first | refine r_end ?_ | (refine r_op ?_; refine r_pure hT rfl rfl rfl rfl rfl rfl ?_) | refine gi_seq ?_ | refine gi_plain ?_ | refine gi_exit rfl ?_))
      refine gi_lt (q := 0) rfl (fun h4 => ?_) (fun h4 => ?_)
      · (repeat (first | refine r_end ?_ | (refine r_op ?_; first | refine r_pure hT rfl rfl rfl rfl rfl rfl ?_ | refine r_store hT rfl rfl rfl rfl rfl rfl rfl rfl rfl rfl ?_) | refine gi_seq ?_ | refine gi_plain ?_))
        refine gi_retW hT Try.func17 rfl rfl [] rfl rfl rfl rfl ?_
        exact ⟨by rw [← hfin]; unfold Src.told; rw [if_pos h4]; rfl, rfl⟩
      · (repeat (first | refine r_end ?_ | (refine r_op ?_; first | refine r_pure hT rfl rfl rfl rfl rfl rfl ?_ | refine r_load hT rfl rfl rfl rfl rfl rfl rfl rfl rfl ?_ | refine r_store hT rfl rfl rfl rfl rfl rfl rfl rfl rfl rfl ?_) | refine gi_seq ?_ | refine gi_plain ?_ | refine gi_skip ?_))
        refine gi_retW hT Try.func17 rfl rfl [] rfl rfl rfl rfl ?_
        exact ⟨by rw [← hfin]; unfold Src.told; rw [if_neg h4], rfl⟩
end Go.Proofs.Ytmocggibcniggaa.Kt
