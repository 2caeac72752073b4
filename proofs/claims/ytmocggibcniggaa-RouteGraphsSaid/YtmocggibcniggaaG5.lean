/- Part of the proofs of this seat's statements: what the functions compute. No condition. -/
import Derived.Test.YtmocggibcniggaaG4
import Derived.Test.YtmocggibcniggaaG3
set_option linter.unusedSimpArgs false
set_option linter.unusedVariables false
namespace Go.Proofs.Ytmocggibcniggaa.Kt
open Go Kw Go.Proofs
attribute [local irreducible] Kw.GI Kw.GR Kw.FnR Kw.FnX
set_option maxHeartbeats 16000000
set_option maxRecDepth 100000
/-! ### nobody wants all groups on Graph's maps -/
theorem wl_nil {l : List Ls} (h : ∀ x ∈ l, x.fl = 0) : (mapL l).wl = [] := by
  show (vertsL l).flatMap (wlF l) = []
  rw [List.flatMap_eq_nil_iff]
  intro v _
  have h0 : ((findL l v).getD zLs).fl = 0 := by
    cases hf : findL l v with
    | none => rfl
    | some x => exact h x (find_mem hf)
  have h1 : wl1 l v = [] := by
    unfold wl1
    rw [h0]
    have : notB (eqB (Go.bits .and .i64 0 8) 0) = false := by kernel_rfl
    rw [this]
  unfold wlF
  split
  · rfl
  · exact h1
theorem GrOk.fl {n : Int} {l : List Ls} (h : GrOk n l) : ∀ x ∈ l, x.fl = 0 := by
  obtain ⟨k, gs, ns, h1, rfl, h2, h3, h4⟩ := h.ex
  intro x hx
  rcases List.mem_append.1 hx with hx | hx
  · obtain ⟨j, hj⟩ := List.mem_iff_getElem?.1 hx
    rw [(h2.el j x hj).1]
  · rw [(h3 x hx).1]
/-! ### laws of what Reach answers -/
theorem isW_nil (n : Nd) : isW [] n = false := by unfold isW; rw [List.any_nil, Bool.and_false]
/-- Who is not one, and is some nets away, is at one at the least. -/
theorem Rch.one {t : List Nd} {ms : List Vt} {o : List Int} (h : Rch t [] ms o) : ∀ (j k : Nat) (n : Nd) (x : Int), t.length - k ≤ j → t[k]? = some n → o[k]? = some x → 0 ≤ x → 1 ≤ x
  | 0, k, n, x, hj, hn, _, _ => by have := (List.getElem?_eq_some_iff.1 hn).1; omega
  | j + 1, k, n, x, hj, hn, hx, h0 => by
    have hv := h.at_ k n x hn hx
    cases hm : isMb ms n with
    | true => rw [hv.me (isW_nil n) hm]; omega
    | false =>
      obtain ⟨k', m, y, hk, hm', _, hy, hy0, rfl⟩ := hv.or (isW_nil n) hm h0
      have := Rch.one h j k' m y (by omega) hm' hy hy0
      have := cK_b n m
      have := cP_b n
      omega
/-- The statement's step. -/
def stS (n m : Nd) : Int := if n.v.k = 1 ∧ m.v.k = 2 then 0 else 1
theorem stS_eq {n m : Nd} (h : m.v.k = 1 ∨ m.v.k = 2) : cK n m + cP n = stS n m := by
  unfold cK cP stS
  by_cases h1 : n.v.k = 1
  · rcases h with h | h
    · rw [if_pos ⟨h, h1⟩, if_pos h1, if_neg (fun hh => by have := hh.2; omega)]; rfl
    · rw [if_neg (fun hh => by have := hh.1; omega), if_pos h1, if_pos ⟨h1, h⟩]; rfl
  · rw [if_neg (fun hh => h1 hh.2), if_neg h1, if_neg (fun hh => h1 hh.1)]; rfl
theorem stS_b (n m : Nd) : 0 ≤ stS n m ∧ stS n m ≤ 1 := by unfold stS; split <;> omega
theorem Rch.kid {t : List Nd} {ms : List Vt} {o : List Int} (h : Rch t [] ms o) {i k : Nat} {n m : Nd} {x y : Int} (hn : t[i]? = some n) (hx : o[i]? = some x) (hik : i < k) (hm : t[k]? = some m) (hp : m.p = i) (hy : o[k]? = some y) (hk : m.v.k = 1 ∨ m.v.k = 2) (hy0 : 0 ≤ y) : 0 ≤ x ∧ x ≤ y + stS n m := by
  have hv := h.at_ i n x hn hx
  have h1 := h.one t.length k m y (by omega) hm hy hy0
  have hs := stS_b n m
  cases hmm : isMb ms n with
  | true => rw [hv.me (isW_nil n) hmm]; omega
  | false =>
    have := hv.le (isW_nil n) hmm k m y hik hm hp hy hy0
    rw [stS_eq hk] at this
    exact this
end Go.Proofs.Ytmocggibcniggaa.Kt
namespace Go.Proofs.Ytmocggibcniggaa.Kt
open Go Kw Go.Proofs
attribute [local irreducible] Kw.GI Kw.GR Kw.FnR Kw.FnX
set_option maxHeartbeats 8000000
set_option maxRecDepth 100000
/-! ### the reference's addresses -/
theorem rRight_ok (a : Int) : FnR Try.prog 59 [I a] (RB (okA a)) := by
  refine fnR_intro (T := TT) (n := 9) Try.func59 rfl rfl rfl (fun w Z => ?_)
  (repeat (first | refine r_end ?_ | (refine r_op ?_; refine r_pure hT rfl rfl rfl rfl rfl rfl ?_) | refine gi_seq ?_ | refine gi_plain ?_))
  refine r_case (d := 5) rfl (fun h => ?_) (fun h => ?_)
  · (repeat (first | refine r_end ?_ | (refine r_op ?_; refine r_pure hT rfl rfl rfl rfl rfl rfl ?_)))
    refine gi_retW hT Try.func59 rfl rfl [] rfl rfl rfl rfl ?_
    exact ⟨by unfold okA; rw [h]; rfl, rfl⟩
  · (repeat (first | refine r_end ?_ | (refine r_op ?_; first | refine r_pure hT rfl rfl rfl rfl rfl rfl ?_ | refine r_off rfl rfl rfl rfl rfl ?_)))
    refine gi_retW hT Try.func59 rfl rfl [] rfl rfl rfl rfl ?_
    exact ⟨by unfold okA; rw [h]; rfl, rfl⟩
def inR (a p b : Int) : Bool := okA a && (okA p && (leB 0 b && (leB b 32 && eqB (netF a b) (netF p b))))
theorem rIn_ok (a p b : Int) : FnR Try.prog 26 [I a, I p, I b] (RB (inR a p b)) := by
  have done : ∀ {x : Bool}, x = inR a p b → Bo x = Bo (inR a p b) := fun h => by rw [h]
  refine fnR_intro (T := TT) (n := 30) Try.func26 rfl rfl rfl (fun w Z => ?_)
  (repeat (first | refine r_end ?_ | (refine r_op ?_; refine r_pure hT rfl rfl rfl rfl rfl rfl ?_) | refine gi_seq ?_ | refine gi_plain ?_))
  refine r_call (rRight_ok a) rfl rfl rfl rfl rfl rfl rfl rfl Try.func59 rfl rfl rfl pB ?_
  rintro r S1 ⟨rfl, rfl⟩
  (repeat ((refine r_op ?_; refine r_pure hT rfl rfl rfl rfl rfl rfl ?_)))
  refine r_case (d := 9) rfl (fun h1 => ?_) (fun h1 => ?_)
  · (repeat ((refine r_op ?_; refine r_pure hT rfl rfl rfl rfl rfl rfl ?_)))
    refine r_call (rRight_ok p) rfl rfl rfl rfl rfl rfl rfl rfl Try.func59 rfl rfl rfl pB ?_
    rintro r S1 ⟨rfl, rfl⟩
    (repeat ((refine r_op ?_; refine r_pure hT rfl rfl rfl rfl rfl rfl ?_)))
    refine r_case (d := 13) rfl (fun h2 => ?_) (fun h2 => ?_)
    · (repeat ((refine r_op ?_; refine r_pure hT rfl rfl rfl rfl rfl rfl ?_)))
      refine r_case (d := 17) rfl (fun h3 => ?_) (fun h3 => ?_)
      · (repeat ((refine r_op ?_; refine r_pure hT rfl rfl rfl rfl rfl rfl ?_)))
        refine r_case (d := 21) rfl (fun h4 => ?_) (fun h4 => ?_)
        · (repeat ((refine r_op ?_; refine r_pure hT rfl rfl rfl rfl rfl rfl ?_)))
          refine r_call (Net_ok a b) rfl rfl rfl rfl rfl rfl rfl rfl Try.func27 rfl rfl rfl pI ?_
          rintro r S1 ⟨rfl, rfl⟩
          (repeat ((refine r_op ?_; refine r_pure hT rfl rfl rfl rfl rfl rfl ?_)))
          refine r_call (Net_ok p b) rfl rfl rfl rfl rfl rfl rfl rfl Try.func27 rfl rfl rfl pI ?_
          rintro r S1 ⟨rfl, rfl⟩
          (repeat (first | refine r_end ?_ | (refine r_op ?_; refine r_pure hT rfl rfl rfl rfl rfl rfl ?_)))
          refine gi_retW hT Try.func26 rfl rfl [] rfl rfl rfl rfl ?_
          exact ⟨by unfold inR; rw [h1, h2, h3, h4]; rfl, rfl⟩
        · (repeat (first | refine r_end ?_ | (refine r_op ?_; first | refine r_pure hT rfl rfl rfl rfl rfl rfl ?_ | refine r_off rfl rfl rfl rfl rfl ?_)))
          refine gi_retW hT Try.func26 rfl rfl [] rfl rfl rfl rfl ?_
          exact ⟨by unfold inR; rw [h1, h2, h3, h4]; rfl, rfl⟩
      · (repeat (first | refine r_end ?_ | (refine r_op ?_; first | refine r_pure hT rfl rfl rfl rfl rfl rfl ?_ | refine r_off rfl rfl rfl rfl rfl ?_)))
        refine gi_retW hT Try.func26 rfl rfl [] rfl rfl rfl rfl ?_
        exact ⟨by unfold inR; rw [h1, h2, h3]; rfl, rfl⟩
    · (repeat (first | refine r_end ?_ | (refine r_op ?_; first | refine r_pure hT rfl rfl rfl rfl rfl rfl ?_ | refine r_off rfl rfl rfl rfl rfl ?_)))
      refine gi_retW hT Try.func26 rfl rfl [] rfl rfl rfl rfl ?_
      exact ⟨by unfold inR; rw [h1, h2]; rfl, rfl⟩
  · (repeat (first | refine r_end ?_ | (refine r_op ?_; first | refine r_pure hT rfl rfl rfl rfl rfl rfl ?_ | refine r_off rfl rfl rfl rfl rfl ?_)))
    refine gi_retW hT Try.func26 rfl rfl [] rfl rfl rfl rfl ?_
    exact ⟨by unfold inR; rw [h1]; rfl, rfl⟩

def xSn (a : Int) (st : Src) (s : Sn) : Src := if inR a s.p s.b = true ∧ st.b < s.b then ⟨s.v, s.p, s.b, true⟩ else st
def xSb (a : Int) (st : Src) (s : Sb) : Src := if inR a s.p s.b = true ∧ st.b < s.b then ⟨⟨1, s.r⟩, s.p, s.b, true⟩ else st
def z1 : Src := ⟨⟨0, 0⟩, 0, -1, false⟩
def xrcF (a : Int) (m : Mp) : Src := m.sb.foldl (xSb a) (m.sn.foldl (xSn a) z1)
/-- What is told of it. -/
def Src.told (s : Src) : Src := if s.b < 0 then z0 else ⟨s.v, s.p, s.b, true⟩
theorem rSource_ok (m : Mp) (a : Int) (h1 : m.sn.length < 1000000) (h2 : m.sb.length < 100000000) : FnR Try.prog 17 [avMf m, I a] (fun r S => r = (xrcF a m).told.av ∧ S = []) := by
  refine fnR_intro (T := TT) (n := 83) Try.func17 rfl rfl rfl (fun w Z => ?_)
  (repeat (first | refine r_end ?_ | (refine r_op ?_; first | refine r_pure hT rfl rfl rfl rfl rfl rfl ?_ | refine r_box rfl rfl rfl rfl rfl rfl rfl rfl rfl ?_ | refine r_store hT rfl rfl rfl rfl rfl rfl rfl rfl rfl rfl ?_ | refine r_alloc hT rfl rfl rfl rfl rfl rfl rfl rfl rfl ?_) | refine gi_seq ?_ | refine gi_plain ?_ | refine gi_block ?_))
  refine gi_loop (σ := Nat × Src) (fun s => [(11, I (s.1 : Int)), (2, .box 0 0), (4, .box 1 0), (8, .box 2 0), (1, I a), (9, I s.2.p), (10, I s.2.b)]) (fun s => [hMf m, hV ⟨0, 0⟩, hV s.2.v]) (fun _ => []) (fun s => s.1 ≤ m.sn.length ∧ s.2 = (m.sn.take s.1).foldl (xSn a) z1) (fun s => m.sn.length - s.1) (0, z1) ⟨Nat.zero_le _, rfl⟩ ⟨rfl, rfl, rfl, rfl, rfl, rfl, rfl, trivial⟩ ⟨rfl, rfl, rfl, trivial⟩ trivial (fun _ => rfl) (fun s hs next => ?_)
  obtain ⟨i, st⟩ := s
  obtain ⟨hi, hst⟩ := hs
  simp only at hi hst
  (repeat (first | refine r_end ?_ | (refine r_op ?_; first | refine r_pure hT rfl rfl rfl rfl rfl rfl ?_ | refine r_load hT rfl rfl rfl rfl rfl rfl rfl rfl rfl ?_) | refine gi_seq ?_ | refine gi_plain ?_))
  refine gi_lt (p := (i : Int)) (q := ((m.sn.map Sn.row).length : Int)) rfl (fun h3 => ?_) (fun h3 => ?_)
  · rw [List.length_map] at h3
    obtain ⟨x, hx⟩ : ∃ x, m.sn[i]? = some x := ⟨_, List.getElem?_eq_getElem (by omega)⟩
    have go : ∀ st', st' = xSn a st x → ∀ F1 H1 S1, SubF [(11, I (wr .i64 ((i : Int) + 1))), (2, .box 0 0), (4, .box 1 0), (8, .box 2 0), (1, I a), (9, I st'.p), (10, I st'.b)] F1 → SubH [hMf m, hV ⟨0, 0⟩, hV st'.v] H1 → SubS [] S1 → GI _ _ F1 H1 S1 := fun st' hst' F1 H1 S1 hF hH hS => by
      refine next (i + 1, st') F1 H1 S1 ⟨by simp only; omega, by simp only; rw [foldl_tk hx, ← hst, hst']⟩ (by simp only; omega) ?_ hH hS
      rw [wr_i64 (by omega) (by omega)] at hF
      simpa using hF
    clear next
    (repeat (first | (refine r_op ?_; first | refine r_pure hT rfl rfl rfl rfl rfl rfl ?_ | refine r_load hT rfl rfl rfl rfl rfl rfl rfl rfl rfl ?_) | refine gi_seq ?_ | refine gi_plain ?_ | refine gi_skip ?_ | refine gi_block ?_))
    refine r_thaw 24 rfl ?_
    refine r_idx (row := x.row) hT rfl rfl rfl rfl rfl rfl rfl rfl rfl rfl rfl rfl (by show (0 : Int) ≤ (i : Int); omega) (by simp [hx]) ?_
    (repeat (first | refine r_end ?_ | (refine r_op ?_; first | refine r_pure hT rfl rfl rfl rfl rfl rfl ?_ | refine r_load hT rfl rfl rfl rfl rfl rfl rfl rfl rfl ?_ | refine r_store hT rfl rfl rfl rfl rfl rfl rfl rfl rfl rfl ?_ | refine r_alloc hT rfl rfl rfl rfl rfl rfl rfl rfl rfl ?_) | refine gi_seq ?_ | refine gi_plain ?_))
    refine r_call (rIn_ok a x.p x.b) rfl rfl rfl rfl rfl rfl rfl rfl Try.func26 rfl rfl rfl pB ?_
    rintro r S1 ⟨rfl, rfl⟩
    (repeat ((refine r_op ?_; refine r_pure hT rfl rfl rfl rfl rfl rfl ?_)))
    refine r_case (d := 34) rfl (fun c1 => ?_) (fun c1 => ?_)
    · (repeat (first | refine r_end ?_ | (refine r_op ?_; first | refine r_pure hT rfl rfl rfl rfl rfl rfl ?_ | refine r_load hT rfl rfl rfl rfl rfl rfl rfl rfl rfl ?_)))
      refine gi_lt rfl (fun c3 => ?_) (fun c3 => ?_)
      · have hs1 : (⟨x.v, x.p, x.b, true⟩ : Src) = xSn a st x := (if_pos ⟨c1, c3⟩).symm
        (repeat (first | refine r_end ?_ | (refine r_op ?_; first | refine r_pure hT rfl rfl rfl rfl rfl rfl ?_ | refine r_load hT rfl rfl rfl rfl rfl rfl rfl rfl rfl ?_ | refine r_store hT rfl rfl rfl rfl rfl rfl rfl rfl rfl rfl ?_) | refine gi_seq ?_ | refine gi_plain ?_ | refine gi_inBlock ?_))
        exact go _ hs1 _ _ _ ⟨rfl, rfl, rfl, rfl, rfl, rfl, rfl, trivial⟩ ⟨rfl, rfl, rfl, trivial⟩ trivial
      · have hs1 : st = xSn a st x := (if_neg (fun h => c3 h.2)).symm
        (repeat (first | refine r_end ?_ | (refine r_op ?_; refine r_pure hT rfl rfl rfl rfl rfl rfl ?_) | refine gi_plain ?_ | refine gi_skip ?_ | refine gi_inBlock ?_))
        exact go _ hs1 _ _ _ ⟨rfl, rfl, rfl, rfl, rfl, rfl, rfl, trivial⟩ ⟨rfl, rfl, rfl, trivial⟩ trivial
    · have hs1 : st = xSn a st x := (if_neg (fun h => by rw [c1] at h; cases h.1)).symm
      (repeat (first | refine r_end ?_ | (refine r_op ?_; first | refine r_pure hT rfl rfl rfl rfl rfl rfl ?_ | refine r_off rfl rfl rfl rfl rfl ?_) | refine gi_plain ?_ | refine gi_skip ?_ | refine gi_inBlock ?_ | (refine gi_cnd ?_; first | refine gi_true rfl ?_ | refine gi_false rfl ?_)))
      exact go _ hs1 _ _ _ ⟨rfl, rfl, rfl, rfl, rfl, rfl, rfl, trivial⟩ ⟨rfl, rfl, rfl, trivial⟩ trivial
  · rw [List.length_map] at h3
    have hil : i = m.sn.length := by omega
    subst hil
    rw [List.take_length] at hst
    clear next
    (repeat (first | refine r_end ?_ | (refine r_op ?_; refine r_pure hT rfl rfl rfl rfl rfl rfl ?_) | refine gi_seq ?_ | refine gi_plain ?_ | refine gi_block ?_ | refine gi_exit rfl ?_))
    refine gi_loop (σ := Nat × Src) (fun s => [(13, I (s.1 : Int)), (2, .box 0 0), (4, .box 1 0), (8, .box 2 0), (1, I a), (9, I s.2.p), (10, I s.2.b)]) (fun s => [hMf m, hV ⟨0, 0⟩, hV s.2.v]) (fun _ => []) (fun s => s.1 ≤ m.sb.length ∧ s.2 = (m.sb.take s.1).foldl (xSb a) st) (fun s => m.sb.length - s.1) (0, st) ⟨Nat.zero_le _, rfl⟩ ⟨rfl, rfl, rfl, rfl, rfl, rfl, rfl, trivial⟩ ⟨rfl, rfl, rfl, trivial⟩ trivial (fun _ => rfl) (fun s hs next => ?_)
    obtain ⟨i, su⟩ := s
    obtain ⟨hi, hsu⟩ := hs
    simp only at hi hsu
    (repeat (first | refine r_end ?_ | (refine r_op ?_; first | refine r_pure hT rfl rfl rfl rfl rfl rfl ?_ | refine r_load hT rfl rfl rfl rfl rfl rfl rfl rfl rfl ?_) | refine gi_seq ?_ | refine gi_plain ?_))
    refine gi_lt (p := (i : Int)) (q := ((m.sb.map Sb.row).length : Int)) rfl (fun h3 => ?_) (fun h3 => ?_)
    · rw [List.length_map] at h3
      obtain ⟨x, hx⟩ : ∃ x, m.sb[i]? = some x := ⟨_, List.getElem?_eq_getElem (by omega)⟩
      have go : ∀ st', st' = xSb a su x → ∀ F1 H1 S1, SubF [(13, I (wr .i64 ((i : Int) + 1))), (2, .box 0 0), (4, .box 1 0), (8, .box 2 0), (1, I a), (9, I st'.p), (10, I st'.b)] F1 → SubH [hMf m, hV ⟨0, 0⟩, hV st'.v] H1 → SubS [] S1 → GI _ _ F1 H1 S1 := fun st' hst' F1 H1 S1 hF hH hS => by
        refine next (i + 1, st') F1 H1 S1 ⟨by simp only; omega, by simp only; rw [foldl_tk hx, ← hsu, hst']⟩ (by simp only; omega) ?_ hH hS
        rw [wr_i64 (by omega) (by omega)] at hF
        simpa using hF
      clear next
      (repeat (first | (refine r_op ?_; first | refine r_pure hT rfl rfl rfl rfl rfl rfl ?_ | refine r_load hT rfl rfl rfl rfl rfl rfl rfl rfl rfl ?_) | refine gi_seq ?_ | refine gi_plain ?_ | refine gi_skip ?_ | refine gi_block ?_))
      refine r_thaw 54 rfl ?_
      refine r_idx (row := x.row) hT rfl rfl rfl rfl rfl rfl rfl rfl rfl rfl rfl rfl (by show (0 : Int) ≤ (i : Int); omega) (by simp [hx]) ?_
      (repeat (first | refine r_end ?_ | (refine r_op ?_; first | refine r_pure hT rfl rfl rfl rfl rfl rfl ?_ | refine r_load hT rfl rfl rfl rfl rfl rfl rfl rfl rfl ?_ | refine r_store hT rfl rfl rfl rfl rfl rfl rfl rfl rfl rfl ?_ | refine r_alloc hT rfl rfl rfl rfl rfl rfl rfl rfl rfl ?_) | refine gi_seq ?_ | refine gi_plain ?_))
      refine r_call (rIn_ok a x.p x.b) rfl rfl rfl rfl rfl rfl rfl rfl Try.func26 rfl rfl rfl pB ?_
      rintro r S1 ⟨rfl, rfl⟩
      (repeat ((refine r_op ?_; refine r_pure hT rfl rfl rfl rfl rfl rfl ?_)))
      refine r_case (d := 64) rfl (fun c1 => ?_) (fun c1 => ?_)
      · (repeat (first | refine r_end ?_ | (refine r_op ?_; first | refine r_pure hT rfl rfl rfl rfl rfl rfl ?_ | refine r_load hT rfl rfl rfl rfl rfl rfl rfl rfl rfl ?_)))
        refine gi_lt rfl (fun c3 => ?_) (fun c3 => ?_)
        · have hs1 : (⟨⟨1, x.r⟩, x.p, x.b, true⟩ : Src) = xSb a su x := (if_pos ⟨c1, c3⟩).symm
          (repeat (first | refine r_end ?_ | (refine r_op ?_; first | refine r_pure hT rfl rfl rfl rfl rfl rfl ?_ | refine r_load hT rfl rfl rfl rfl rfl rfl rfl rfl rfl ?_ | refine r_store hT rfl rfl rfl rfl rfl rfl rfl rfl rfl rfl ?_) | refine gi_seq ?_ | refine gi_plain ?_ | refine gi_inBlock ?_))
          exact go _ hs1 _ _ _ ⟨rfl, rfl, rfl, rfl, rfl, rfl, rfl, trivial⟩ ⟨rfl, rfl, rfl, trivial⟩ trivial
        · have hs1 : su = xSb a su x := (if_neg (fun h => c3 h.2)).symm
          (repeat (first | refine r_end ?_ | (refine r_op ?_; refine r_pure hT rfl rfl rfl rfl rfl rfl ?_) | refine gi_plain ?_ | refine gi_skip ?_ | refine gi_inBlock ?_))
          exact go _ hs1 _ _ _ ⟨rfl, rfl, rfl, rfl, rfl, rfl, rfl, trivial⟩ ⟨rfl, rfl, rfl, trivial⟩ trivial
      · have hs1 : su = xSb a su x := (if_neg (fun h => by rw [c1] at h; cases h.1)).symm
        (repeat (first | refine r_end ?_ | (refine r_op ?_; first | refine r_pure hT rfl rfl rfl rfl rfl rfl ?_ | refine r_off rfl rfl rfl rfl rfl ?_) | refine gi_plain ?_ | refine gi_skip ?_ | refine gi_inBlock ?_ | (refine gi_cnd ?_; first | refine gi_true rfl ?_ | refine gi_false rfl ?_)))
        exact go _ hs1 _ _ _ ⟨rfl, rfl, rfl, rfl, rfl, rfl, rfl, trivial⟩ ⟨rfl, rfl, rfl, trivial⟩ trivial
    · rw [List.length_map] at h3
      have hil : i = m.sb.length := by omega
      subst hil
      rw [List.take_length] at hsu
      have hfin : su = xrcF a m := by unfold xrcF; rw [hsu, hst]
      clear next
      (repeat (first | refine r_end ?_ | (refine r_op ?_; refine r_pure hT rfl rfl rfl rfl rfl rfl ?_) | refine gi_seq ?_ | refine gi_plain ?_ | refine gi_exit rfl ?_))
      refine gi_lt (q := 0) rfl (fun h4 => ?_) (fun h4 => ?_)
      · (repeat (first | refine r_end ?_ | (refine r_op ?_; first | refine r_pure hT rfl rfl rfl rfl rfl rfl ?_ | refine r_store hT rfl rfl rfl rfl rfl rfl rfl rfl rfl rfl ?_) | refine gi_seq ?_ | refine gi_plain ?_))
        refine gi_retW hT Try.func17 rfl rfl [] rfl rfl rfl rfl ?_
        exact ⟨by rw [← hfin]; unfold Src.told; rw [if_pos h4]; rfl, rfl⟩
      · (repeat (first | refine r_end ?_ | (refine r_op ?_; first | refine r_pure hT rfl rfl rfl rfl rfl rfl ?_ | refine r_load hT rfl rfl rfl rfl rfl rfl rfl rfl rfl ?_ | refine r_store hT rfl rfl rfl rfl rfl rfl rfl rfl rfl rfl ?_) | refine gi_seq ?_ | refine gi_plain ?_ | refine gi_skip ?_))
        refine gi_retW hT Try.func17 rfl rfl [] rfl rfl rfl rfl ?_
        exact ⟨by rw [← hfin]; unfold Src.told; rw [if_neg h4], rfl⟩
end Go.Proofs.Ytmocggibcniggaa.Kt
namespace Go.Proofs.Ytmocggibcniggaa.Kt
open Go Kw Go.Proofs
set_option maxHeartbeats 4000000
set_option maxRecDepth 100000
/-! ### both sides' addresses are one -/
theorem and_i64 (a b : Nat) (ha : a < 9223372036854775808) (hb : b < 9223372036854775808) : Go.bits .and .i64 (a : Int) (b : Int) = ((a &&& b : Nat) : Int) := by
  have hx : a &&& b < 2 ^ 63 := Nat.and_lt_two_pow _ (by omega)
  have h1 : (BitVec.ofInt 64 (a : Int)).toNat = a := by
    rw [BitVec.ofInt_natCast, BitVec.toNat_ofNat]; exact Nat.mod_eq_of_lt (by omega)
  have h2 : (BitVec.ofInt 64 (b : Int)).toNat = b := by
    rw [BitVec.ofInt_natCast, BitVec.toNat_ofNat]; exact Nat.mod_eq_of_lt (by omega)
  show IntKind.i64.wrap ((BitVec.ofInt 64 (a : Int) &&& BitVec.ofInt 64 (b : Int)).toNat : Int) = _
  rw [BitVec.toNat_and, h1, h2, ← wr_eq, wr_i64 (by omega) (by omega)]
def gM (n : Nat) : Int := Go.bits .and .i64 (wr .i64 (4294967295 * 2 ^ (min n 64))) 4294967295
theorem gM_all : (List.range 33).all (fun n => decide (0 ≤ gM n) && decide (gM n ≤ 4294967295)) = true := by kernel_rfl
theorem mask_b (b : Int) : 0 ≤ maskF b ∧ maskF b ≤ 4294967295 := by
  obtain ⟨h1, h2⟩ := nM_rng b
  have h3 : maskF b = gM (nM b).toNat := by unfold maskF gM; rfl
  have h4 := List.all_eq_true.1 gM_all (nM b).toNat (List.mem_range.2 (by omega))
  rw [Bool.and_eq_true] at h4
  rw [h3]
  exact ⟨of_decide_eq_true h4.1, of_decide_eq_true h4.2⟩
theorem and_all {a : Int} (h0 : 0 ≤ a) (h1 : a ≤ 4294967295) : Go.bits .and .i64 a 4294967295 = a := by
  obtain ⟨n, rfl⟩ : ∃ n : Nat, a = n := ⟨a.toNat, by omega⟩
  have := and_i64 n 4294967295 (by omega) (by omega)
  rw [show ((4294967295 : Nat) : Int) = 4294967295 from rfl] at this
  rw [this]
  have h : n &&& (2 ^ 32 - 1) = n % 2 ^ 32 := Nat.and_two_pow_sub_one_eq_mod n 32
  rw [show (2 ^ 32 - 1 : Nat) = 4294967295 by decide, show (2 ^ 32 : Nat) = 4294967296 by decide] at h
  rw [h, Nat.mod_eq_of_lt (by omega)]
theorem net_same {a : Int} (b : Int) (h0 : 0 ≤ a) (h1 : a ≤ 4294967295) : netF a b = pnetF a b := by
  unfold netF pnetF
  rw [and_all h0 h1]
theorem okA_b {a : Int} (h : okA a = true) : 0 ≤ a ∧ a ≤ 4294967295 := by
  unfold okA at h
  rw [Bool.and_eq_true, leB_eq, leB_eq] at h
  exact ⟨of_decide_eq_true h.1, of_decide_eq_true h.2⟩
theorem in_same (a p b : Int) : inR a p b = inP a p b := by
  unfold inR inP
  cases ha : okA a with
  | false => rw [Bool.false_and, Bool.false_and]
  | true =>
    cases hp : okA p with
    | false => rw [Bool.true_and, Bool.true_and, Bool.false_and, Bool.false_and]
    | true =>
      rw [net_same b (okA_b ha).1 (okA_b ha).2, net_same b (okA_b hp).1 (okA_b hp).2]
theorem in_b {a p b : Int} (h : inP a p b = true) : 0 ≤ b := by
  unfold inP at h
  rw [Bool.and_eq_true, Bool.and_eq_true, Bool.and_eq_true, leB_eq] at h
  exact of_decide_eq_true h.2.2.1
/-- Nothing yet, or the same. -/
def Bth (s z : Src) : Prop := (s = z0 ∧ z = z1) ∨ (s = z ∧ z.ok = true ∧ 0 ≤ z.b)
theorem Bth.sn {a : Int} {s z : Src} (h : Bth s z) (x : Sn) : Bth (sn1 a s x) (xSn a z x) := by
  unfold sn1 xSn
  rw [in_same]
  by_cases hi : inP a x.p x.b = true
  · have hb := in_b hi
    rcases h with ⟨rfl, rfl⟩ | ⟨rfl, h1, h2⟩
    · rw [if_pos ⟨hi, .inl rfl⟩, if_pos ⟨hi, show (-1 : Int) < x.b by omega⟩]
      exact .inr ⟨rfl, rfl, hb⟩
    · by_cases hl : s.b < x.b
      · rw [if_pos ⟨hi, .inr hl⟩, if_pos ⟨hi, hl⟩]
        exact .inr ⟨rfl, rfl, hb⟩
      · rw [if_neg (fun hh => by rcases hh.2 with hh | hh; (rw [h1] at hh; cases hh); exact hl hh), if_neg (fun hh => hl hh.2)]
        exact .inr ⟨rfl, h1, h2⟩
  · rw [if_neg (fun hh => hi hh.1), if_neg (fun hh => hi hh.1)]
    exact h
theorem Bth.sb {a : Int} {s z : Src} (h : Bth s z) (x : Sb) : Bth (sb1 a s x) (xSb a z x) := by
  unfold sb1 xSb
  rw [in_same]
  by_cases hi : inP a x.p x.b = true
  · have hb := in_b hi
    rcases h with ⟨rfl, rfl⟩ | ⟨rfl, h1, h2⟩
    · rw [if_pos ⟨hi, .inl rfl⟩, if_pos ⟨hi, show (-1 : Int) < x.b by omega⟩]
      exact .inr ⟨rfl, rfl, hb⟩
    · by_cases hl : s.b < x.b
      · rw [if_pos ⟨hi, .inr hl⟩, if_pos ⟨hi, hl⟩]
        exact .inr ⟨rfl, rfl, hb⟩
      · rw [if_neg (fun hh => by rcases hh.2 with hh | hh; (rw [h1] at hh; cases hh); exact hl hh), if_neg (fun hh => hl hh.2)]
        exact .inr ⟨rfl, h1, h2⟩
  · rw [if_neg (fun hh => hi hh.1), if_neg (fun hh => hi hh.1)]
    exact h
theorem Bth.fold {α : Type} {f g : Src → α → Src} (hfg : ∀ s z x, Bth s z → Bth (f s x) (g z x)) : ∀ (l : List α) (s z : Src), Bth s z → Bth (l.foldl f s) (l.foldl g z)
  | [], _, _, h => h
  | x :: l, s, z, h => by
    rw [List.foldl_cons, List.foldl_cons]
    exact Bth.fold hfg l _ _ (hfg s z x h)
theorem src_bth (a : Int) (m : Mp) : Bth (srcF a m) (xrcF a m) :=
  Bth.fold (fun _ _ x h => h.sb x) _ _ _ (Bth.fold (fun _ _ x h => h.sn x) _ _ _ (.inl ⟨rfl, rfl⟩))
/-- The two sides tell one. -/
theorem src_same (a : Int) (m : Mp) : (xrcF a m).told = srcF a m := by
  unfold Src.told
  rcases src_bth a m with ⟨h1, h2⟩ | ⟨h1, h2, h3⟩
  · rw [h1, h2]; rfl
  · rw [if_neg (show ¬ (xrcF a m).b < 0 by omega), h1]
    cases hx : xrcF a m with
    | mk v p b ok => rw [hx] at h2; cases h2; rfl
end Go.Proofs.Ytmocggibcniggaa.Kt
namespace Go.Proofs.Ytmocggibcniggaa.Kt
open Go Kw Go.Proofs
attribute [local irreducible] Kw.GI Kw.GR Kw.FnR Kw.FnX Kw.FnI
set_option maxHeartbeats 16000000
set_option maxRecDepth 100000
/-! ### the routes of a map, as they are laid -/
abbrev hO (k : Nat) : Option (TypeId × List AV) := some (63, [.sl k])
def putR (t : List Nd) (L : List Rt) (v : Vt) (p b c : Int) : List Rt := match placeL t v with
  | none => L
  | some at_ => L ++ [⟨p, b, wr .i64 ((t.getD at_ zNd).c + c), (hopF t at_).1, (hopF t at_).2⟩]
theorem putR_len (t : List Nd) (L : List Rt) (v : Vt) (p b c : Int) : (putR t L v p b c).length ≤ L.length + 1 := by
  unfold putR
  split
  · omega
  · simp
theorem eRt_ap (a b : List Rt) : eRt (a ++ b) = some (⟨67, 5, a.map Rt.row ++ b.map Rt.row, false⟩ : SE) := by rw [eRt, List.map_append]
theorem stLL_Rt : ∀ (l : List Rt), stLL (l.map Rt.row) = true
  | [] => rfl
  | c :: l => by
    show (stL (Rt.row c) && stLL (l.map Rt.row)) = true
    rw [stLL_Rt l]; rfl
abbrev RPut (t : List Nd) (L : List Rt) : AV → Hp → Sp → Prop := fun r H S => r = .tup [] ∧ H = [hTt t, hO 0] ∧ S = [eRt L]
theorem pPut {t : List Nd} {L : List Rt} : ∀ r H1 S1, RPut t L r H1 S1 → stA r = true ∧ StH H1 ∧ StS S1 := by
  rintro r H S ⟨rfl, rfl, rfl⟩
  refine ⟨rfl, fun e he ty cs h => ?_, fun e he s hs => ?_⟩
  · simp only [List.mem_cons, List.not_mem_nil, or_false] at he
    rcases he with rfl | rfl
    · cases h
      show (stLL (t.map Nd.row) && true) = true
      rw [stLL_Nd]; rfl
    · cases h
      rfl
  · rw [List.mem_singleton] at he
    subst he
    cases hs
    exact stLL_Rt L
theorem pCp {L : List Rt} : ∀ r H1 S1, RV1 (eRt L) r H1 S1 → stA r = true ∧ StH H1 ∧ StS S1 := by
  rintro r H S ⟨rfl, rfl, rfl⟩
  refine ⟨rfl, StH.nil, fun e he s hs => ?_⟩
  rw [List.mem_singleton] at he
  subst he
  cases hs
  exact stLL_Rt L
theorem put_ok (t : List Nd) (L : List Rt) (v : Vt) (p b c : Int) (h : Tre t) (ht : t.length < 1000000) (hL : L.length < 100000000) : FnX Try.prog 60 [v.av, I p, I b, I c, .box 0 0, .box 1 0] [hTt t, hO 0] [eRt L] (RPut t (putR t L v p b c)) := by
  refine fnX_intro (T := TT) (n := 39) Try.func60 rfl rfl rfl (fun w X Z Y B => ?_)
  (repeat (first | refine r_end ?_ | (refine r_op ?_; first | refine r_load hT rfl rfl rfl rfl rfl rfl rfl rfl rfl ?_ | refine r_box rfl rfl rfl rfl rfl rfl rfl rfl rfl ?_) | refine gi_seq ?_ | refine gi_plain ?_))
  refine r_thaw 13 rfl ?_
  refine r_call (pPlace_ok t v ht) rfl rfl rfl rfl rfl rfl rfl rfl Try.func61 rfl rfl rfl pI ?_
  rintro r S1 ⟨rfl, rfl⟩
  (repeat (first | refine r_end ?_ | (refine r_op ?_; refine r_pure hT rfl rfl rfl rfl rfl rfl ?_) | refine gi_seq ?_ | refine gi_plain ?_))
  refine gi_lt (p := placeI (placeL t v)) (q := 0) rfl (fun c1 => ?_) (fun c1 => ?_)
  · have hn : placeL t v = none := by
      cases hp : placeL t v with
      | none => rfl
      | some i => rw [hp] at c1; have c1 : (i : Int) < 0 := c1; omega
    skip
    refine gi_retX hT Try.func60 rfl [0, 1] [0] rfl rfl rfl rfl rfl rfl rfl rfl ?_
    exact ⟨rfl, rfl, by unfold putR; rw [hn]⟩
  obtain ⟨i, hi⟩ : ∃ i, placeL t v = some i := by
    cases hp : placeL t v with
    | none => rw [hp] at c1; exact absurd (show (-1 : Int) < 0 by decide) c1
    | some i => exact ⟨i, rfl⟩
  have hil := placeL_lt hi
  obtain ⟨n, hn⟩ : ∃ n, t[i]? = some n := ⟨_, List.getElem?_eq_getElem hil⟩
  have hgd : t.getD i zNd = n := by rw [List.getD_eq_getElem?_getD, hn]; rfl
  have hpi : placeI (placeL t v) = (i : Int) := by rw [hi]; rfl
  rw [hpi]
  have hput : putR t L v p b c = L ++ [⟨p, b, wr .i64 (n.c + c), (hopF t i).1, (hopF t i).2⟩] := by unfold putR; rw [hi]; simp only; rw [hgd]
  rw [hput]
  (repeat (first | (refine r_op ?_; first | refine r_pure hT rfl rfl rfl rfl rfl rfl ?_ | refine r_load hT rfl rfl rfl rfl rfl rfl rfl rfl rfl ?_) | refine gi_seq ?_ | refine gi_plain ?_ | refine gi_skip ?_))
  refine r_thaw 19 rfl ?_
  refine r_call (hop_ok t i h hil ht) rfl rfl rfl rfl rfl rfl rfl rfl Try.func62 rfl rfl rfl pHop ?_
  rintro r S1 ⟨rfl, rfl⟩
  (repeat (first | refine r_end ?_ | (refine r_op ?_; refine r_pure hT rfl rfl rfl rfl rfl rfl ?_)))
  refine gi_drawM [14, 15] [(1, .p), (2, .p), (4, .p), (8, .p), (10, .p), (11, .p), (0, .t), (3, .t), (5, .p), (6, .p), (7, .t), (9, .p), (12, .p), (13, .o), (14, .l), (15, .l)] [0, 0, 0, 0, 0, 24, 32, 64, 0, 384, 0, 0, 3590, 4096, 8193, 32767] [0, 0, 0, 0, 0, 24, 32, 64, 0, 384, 0, 0, 3590, 4096, 8193, 16384] Kt.hm rfl (by kernel_rfl) (fun w1 K => ?_)
  (repeat ((refine r_op ?_; first | refine r_pure hT rfl rfl rfl rfl rfl rfl ?_ | refine r_load hT rfl rfl rfl rfl rfl rfl rfl rfl rfl ?_)))
  refine r_thaw 27 rfl ?_
  refine r_idx (row := n.row) hT rfl rfl rfl rfl rfl rfl rfl rfl rfl rfl rfl rfl (nn i) (by simp [hn]) ?_
  (repeat ((refine r_op ?_; first | refine r_pure hT rfl rfl rfl rfl rfl rfl ?_ | refine r_load hT rfl rfl rfl rfl rfl rfl rfl rfl rfl ?_ | refine r_lit hT rfl rfl rfl rfl rfl rfl rfl rfl rfl rfl rfl rfl rfl ?_)))
  refine r_append hT rfl rfl rfl rfl rfl rfl rfl rfl rfl rfl rfl rfl rfl rfl rfl rfl rfl ?_ ?_
  · simp only [List.length_cons, List.length_nil, List.length_map, maxLen]
    constructor
    · omega
    · show _ * 40 ≤ _
      omega
  (repeat (first | refine r_end ?_ | (refine r_op ?_; refine r_store hT rfl rfl rfl rfl rfl rfl rfl rfl rfl rfl ?_)))
  refine gi_finX hT Try.func60 rfl [0, 1] [0] rfl rfl rfl rfl rfl rfl rfl rfl ?_
  exact ⟨rfl, rfl, by rw [eRt_ap]; rfl⟩
/-- The routes as they are laid: of the Spans, of the Stubs. -/
def rawS (t : List Nd) (l : List Sn) (L : List Rt) : List Rt := l.foldl (fun L s => putR t L s.v s.p s.b 0) L
def rawB (t : List Nd) (l : List Sb) (L : List Rt) : List Rt := l.foldl (fun L s => putR t L ⟨1, s.r⟩ s.p s.b s.c) L
def rawR (m : Mp) (t : List Nd) : List Rt := rawB t m.sb (rawS t m.sn [])
theorem rawS_len (t : List Nd) : ∀ (l : List Sn) (L : List Rt), (rawS t l L).length ≤ L.length + l.length
  | [], L => Nat.le_refl _
  | s :: l, L => by
    have := rawS_len t l (putR t L s.v s.p s.b 0)
    have := putR_len t L s.v s.p s.b 0
    show (rawS t l (putR t L s.v s.p s.b 0)).length ≤ _
    rw [List.length_cons]
    omega
theorem rawB_len (t : List Nd) : ∀ (l : List Sb) (L : List Rt), (rawB t l L).length ≤ L.length + l.length
  | [], L => Nat.le_refl _
  | s :: l, L => by
    have := rawB_len t l (putR t L ⟨1, s.r⟩ s.p s.b s.c)
    have := putR_len t L ⟨1, s.r⟩ s.p s.b s.c
    show (rawB t l (putR t L ⟨1, s.r⟩ s.p s.b s.c)).length ≤ _
    rw [List.length_cons]
    omega
/-- What is told: sorted, of each net the first. -/
def RtOk (L L' : List Rt) : Prop := ∃ q, Seg 0 L.length L q ∧ Srt 0 L.length q ∧ L' = cpL q
abbrev fsRt (l : List Rt) : AV := .r (.fs 5 (l.map Rt.row))
abbrev RRts (L : List Rt) : AV → Hp → Sp → Prop := fun r H S => H = [] ∧ S = [] ∧ ∃ L', r = fsRt L' ∧ RtOk L L'
theorem Routes_ok (l : List Ls) (self : Int) (hf : Few l) (hT0 : Tre (refTree (mapL l) ⟨1, self⟩)) : FnX Try.prog 30 [avMf (mapL l), I self] [] [] (RRts (rawR (mapL l) (refTree (mapL l) ⟨1, self⟩))) := by
  obtain ⟨t, ht⟩ : ∃ t, t = refTree (mapL l) ⟨1, self⟩ := ⟨_, rfl⟩
  have htl := tree_lt hf ⟨1, self⟩
  have hvl : (vertsL l).length ≤ 2000 := map_vs hf
  have hsn : (mapL l).sn.length ≤ 2000 := by
    have := flat_len (snF_len l) (vertsL l)
    show ((vertsL l).flatMap (snF l)).length ≤ _
    omega
  have hsb : (mapL l).sb.length ≤ 2000000 := by
    have := flat_len (fun v => sbF_len hf v) (vertsL l)
    show ((vertsL l).flatMap (sbF l)).length ≤ _
    omega
  have htree := pTreeL l ⟨1, self⟩ hf
  rw [← ht] at hT0 htl htree
  rw [← ht]
  generalize mapL l = m at hsn hsb htree
  refine fnX_intro (T := TT) (n := 62) Try.func30 rfl rfl rfl (fun w X Z Y B => ?_)
  (repeat (first | refine r_end ?_ | (refine r_op ?_; first | refine r_pure hT rfl rfl rfl rfl rfl rfl ?_ | refine r_load hT rfl rfl rfl rfl rfl rfl rfl rfl rfl ?_ | refine r_box rfl rfl rfl rfl rfl rfl rfl rfl rfl ?_) | refine gi_seq ?_ | refine gi_plain ?_))
  refine r_call (htree) rfl rfl rfl rfl rfl rfl rfl rfl Try.func49 rfl rfl rfl pT1 ?_
  rintro r S1 ⟨rfl, rfl⟩
  (repeat (first | refine r_end ?_ | (refine r_op ?_; first | refine r_store hT rfl rfl rfl rfl rfl rfl rfl rfl rfl rfl ?_ | refine r_alloc hT rfl rfl rfl rfl rfl rfl rfl rfl rfl ?_) | refine gi_seq ?_))
  refine gi_freeze 0 (L' := t.map Nd.row) rfl rfl ?_
  refine gi_weak (F' := [(2, .box 0 0), (5, .box 1 0)]) (H' := [hMf m, hTt t]) (S' := []) ⟨rfl, rfl, trivial⟩ ⟨rfl, rfl, trivial⟩ trivial rfl ?_
  (repeat (first | refine r_end ?_ | (refine r_op ?_; first | refine r_pure hT rfl rfl rfl rfl rfl rfl ?_ | refine r_load hT rfl rfl rfl rfl rfl rfl rfl rfl rfl ?_ | refine r_alloc hT rfl rfl rfl rfl rfl rfl rfl rfl rfl ?_) | refine gi_seq ?_ | refine gi_plain ?_ | refine gi_block ?_))
  refine gi_adoptH (e := 67) (sz := 5) 2 0 rfl rfl ?_
  refine gi_thaw 18 rfl ?_
  refine gi_loop (σ := Nat) (fun i => [(20, I (i : Int)), (19, I (m.sn.length : Int)), (18, rsSn m.sn), (7, .fn 60 [.box 1 0, .box 2 0]), (2, .box 0 0), (6, .box 2 0)]) (fun _ => [hMf m, hTt t, hO 0]) (fun i => [eRt (rawS t (m.sn.take i) [])]) (fun i => i ≤ m.sn.length) (fun i => m.sn.length - i) 0 (Nat.zero_le _) ⟨rfl, by show some (I (((m.sn.map Sn.row).length : Nat) : Int)) = _; rw [List.length_map], rfl, rfl, rfl, rfl, trivial⟩ ⟨rfl, rfl, rfl, trivial⟩ ⟨rfl, trivial⟩ (fun _ => rfl) (fun i hi next => ?_)
  have hi : i ≤ m.sn.length := hi
  have hrl := rawS_len t (m.sn.take i) []
  rw [List.length_take, List.length_nil] at hrl
  (repeat (first | refine r_end ?_ | (refine r_op ?_; refine r_pure hT rfl rfl rfl rfl rfl rfl ?_) | refine gi_seq ?_ | refine gi_plain ?_))
  refine gi_lt (p := (i : Int)) (q := (m.sn.length : Int)) rfl (fun h3 => ?_) (fun h3 => ?_)
  · obtain ⟨s, hs⟩ : ∃ s, m.sn[i]? = some s := ⟨_, List.getElem?_eq_getElem (by omega)⟩
    have hstep : rawS t (m.sn.take (i + 1)) [] = putR t (rawS t (m.sn.take i) []) s.v s.p s.b 0 := foldl_tk hs
    generalize rawS t (m.sn.take i) [] = L at hrl hstep
    (repeat (first | refine gi_seq ?_ | refine gi_plain ?_ | refine gi_skip ?_ | refine gi_block ?_))
    refine r_idx (row := s.row) hT rfl rfl rfl rfl rfl rfl rfl rfl rfl rfl rfl rfl (nn i) (by simp [hs]) ?_
    (repeat (first | refine r_end ?_ | (refine r_op ?_; first | refine r_pure hT rfl rfl rfl rfl rfl rfl ?_ | refine r_load hT rfl rfl rfl rfl rfl rfl rfl rfl rfl ?_ | refine r_store hT rfl rfl rfl rfl rfl rfl rfl rfl rfl rfl ?_ | refine r_alloc hT rfl rfl rfl rfl rfl rfl rfl rfl rfl ?_) | refine gi_plain ?_))
    refine r_callX [1, 2] [0] (put_ok t L s.v s.p s.b 0 hT0 htl (by omega)) rfl rfl rfl rfl rfl rfl Try.func60 rfl rfl rfl rfl rfl rfl rfl pPut ?_
    rintro r H1 S1 ⟨rfl, rfl, rfl⟩
    (repeat (first | refine r_end ?_ | (refine r_op ?_; refine r_pure hT rfl rfl rfl rfl rfl rfl ?_) | refine gi_plain ?_ | refine gi_inBlock ?_))
    refine gi_pick [0, 1, 2] [1] rfl rfl rfl rfl rfl ?_
    refine next (i + 1) _ _ _ (by omega) (by omega) ⟨?_, rfl, rfl, rfl, rfl, rfl, trivial⟩ ⟨rfl, rfl, rfl, trivial⟩ ⟨by rw [hstep], trivial⟩
    show some (I (wr .i64 ((i : Int) + 1))) = _
    rw [wadd1 (by omega)]
  have hin : i = m.sn.length := by omega
  subst hin
  clear next
  rw [List.take_length] at hrl
  rw [List.take_length]
  obtain ⟨L0, hL0⟩ : ∃ L0, L0 = rawS t m.sn [] := ⟨_, rfl⟩
  rw [← hL0] at hrl
  rw [← hL0]
  (repeat (first | refine r_end ?_ | (refine r_op ?_; first | refine r_pure hT rfl rfl rfl rfl rfl rfl ?_ | refine r_load hT rfl rfl rfl rfl rfl rfl rfl rfl rfl ?_) | refine gi_seq ?_ | refine gi_plain ?_ | refine gi_block ?_ | refine gi_exit rfl ?_))
  refine gi_thaw 34 rfl ?_
  refine gi_loop (σ := Nat) (fun i => [(36, I (i : Int)), (35, I (m.sb.length : Int)), (34, rsSb m.sb), (7, .fn 60 [.box 1 0, .box 2 0]), (6, .box 2 0)]) (fun _ => [hMf m, hTt t, hO 0]) (fun i => [eRt (rawB t (m.sb.take i) L0)]) (fun i => i ≤ m.sb.length) (fun i => m.sb.length - i) 0 (Nat.zero_le _) ⟨rfl, by show some (I (((m.sb.map Sb.row).length : Nat) : Int)) = _; rw [List.length_map], rfl, rfl, rfl, trivial⟩ ⟨rfl, rfl, rfl, trivial⟩ ⟨rfl, trivial⟩ (fun _ => rfl) (fun i hi next => ?_)
  have hi : i ≤ m.sb.length := hi
  have hrb := rawB_len t (m.sb.take i) L0
  rw [List.length_take] at hrb
  (repeat (first | refine r_end ?_ | (refine r_op ?_; refine r_pure hT rfl rfl rfl rfl rfl rfl ?_) | refine gi_seq ?_ | refine gi_plain ?_))
  refine gi_lt (p := (i : Int)) (q := (m.sb.length : Int)) rfl (fun h3 => ?_) (fun h3 => ?_)
  · obtain ⟨s, hs⟩ : ∃ s, m.sb[i]? = some s := ⟨_, List.getElem?_eq_getElem (by omega)⟩
    have hstep : rawB t (m.sb.take (i + 1)) L0 = putR t (rawB t (m.sb.take i) L0) ⟨1, s.r⟩ s.p s.b s.c := foldl_tk hs
    generalize rawB t (m.sb.take i) L0 = L at hrb hstep
    (repeat (first | refine gi_seq ?_ | refine gi_plain ?_ | refine gi_skip ?_ | refine gi_block ?_))
    refine r_idx (row := s.row) hT rfl rfl rfl rfl rfl rfl rfl rfl rfl rfl rfl rfl (nn i) (by simp [hs]) ?_
    (repeat (first | refine r_end ?_ | (refine r_op ?_; first | refine r_pure hT rfl rfl rfl rfl rfl rfl ?_ | refine r_load hT rfl rfl rfl rfl rfl rfl rfl rfl rfl ?_ | refine r_store hT rfl rfl rfl rfl rfl rfl rfl rfl rfl rfl ?_ | refine r_alloc hT rfl rfl rfl rfl rfl rfl rfl rfl rfl ?_) | refine gi_plain ?_))
    refine r_callX [1, 2] [0] (put_ok t L ⟨1, s.r⟩ s.p s.b s.c hT0 htl (by omega)) rfl rfl rfl rfl rfl rfl Try.func60 rfl rfl rfl rfl rfl rfl rfl pPut ?_
    rintro r H1 S1 ⟨rfl, rfl, rfl⟩
    (repeat (first | refine r_end ?_ | (refine r_op ?_; refine r_pure hT rfl rfl rfl rfl rfl rfl ?_) | refine gi_plain ?_ | refine gi_inBlock ?_))
    refine gi_pick [0, 1, 2] [1] rfl rfl rfl rfl rfl ?_
    refine next (i + 1) _ _ _ (by omega) (by omega) ⟨?_, rfl, rfl, rfl, rfl, trivial⟩ ⟨rfl, rfl, rfl, trivial⟩ ⟨by rw [hstep], trivial⟩
    show some (I (wr .i64 ((i : Int) + 1))) = _
    rw [wadd1 (by omega)]
  have hin : i = m.sb.length := by omega
  subst hin
  clear next
  rw [List.take_length] at hrb
  rw [List.take_length]
  have hraw : rawB t m.sb L0 = rawR m t := by unfold rawR; rw [hL0]
  rw [hraw] at hrb
  rw [hraw]
  generalize rawR m t = L at hrb
  (repeat (first | (refine r_op ?_; refine r_load hT rfl rfl rfl rfl rfl rfl rfl rfl rfl ?_) | refine gi_seq ?_ | refine gi_plain ?_ | refine gi_exit rfl ?_))
  refine r_callI 0 (sortS_ok L (by omega)) rfl rfl rfl rfl rfl rfl Try.func63 rfl rfl rfl rfl ?_
  rintro L' hl' ⟨q, rfl, g1, g2⟩
  have hq := g1.len
  (repeat (first | refine r_end ?_ | (refine r_op ?_; refine r_load hT rfl rfl rfl rfl rfl rfl rfl rfl rfl ?_) | refine gi_seq ?_ | refine gi_plain ?_))
  refine r_callX [] [0] (cp_ok q (by omega)) rfl rfl rfl rfl rfl rfl Try.func67 rfl rfl rfl rfl rfl rfl rfl pCp ?_
  rintro r H1 S1 ⟨rfl, rfl, rfl⟩
  (repeat (first | refine r_end ?_ | (refine r_op ?_; refine r_store hT rfl rfl rfl rfl rfl rfl rfl rfl rfl rfl ?_) | refine gi_seq ?_))
  refine gi_pick [0, 1, 2] [1] rfl rfl rfl rfl rfl ?_
  refine gi_freeze 0 (L' := (cpL q).map Rt.row) rfl rfl ?_
  (repeat (first | (refine r_op ?_; first | refine r_pure hT rfl rfl rfl rfl rfl rfl ?_ | refine r_load hT rfl rfl rfl rfl rfl rfl rfl rfl rfl ?_) | refine gi_plain ?_))
  refine r_slice3F hT rfl rfl rfl rfl rfl rfl rfl rfl rfl rfl rfl rfl ?_
  (repeat (first | refine r_end ?_ | (refine r_op ?_; refine r_pure hT rfl rfl rfl rfl rfl rfl ?_)))
  refine gi_retX hT Try.func30 rfl [] [] rfl rfl rfl rfl rfl rfl rfl rfl ?_
  exact ⟨rfl, rfl, _, rfl, q, g1, g2, rfl⟩
end Go.Proofs.Ytmocggibcniggaa.Kt
namespace Go.Proofs.Ytmocggibcniggaa.Kt
open Go Kw Go.Proofs
attribute [local irreducible] Kw.GI Kw.GR Kw.FnR Kw.FnX Kw.FnI
set_option maxHeartbeats 16000000
set_option maxRecDepth 100000
/-! ### the route to an address -/
def zRt : Rt := ⟨0, 0, 0, 0, 0⟩
def fd1 (a : Int) (m : Option (Nat × Rt)) (i : Nat) (x : Rt) : Option (Nat × Rt) := match inP a x.p x.b with
  | true => (match m with
    | none => some (i, x)
    | some (j, y) => (match ltB y.b x.b with
      | true => some (i, x)
      | false => some (j, y)))
  | false => m
def fndN (l : List Rt) (a : Int) : Nat → Option (Nat × Rt)
  | 0 => none
  | i + 1 => match l[i]? with
    | some x => fd1 a (fndN l a i) i x
    | none => fndN l a i
def fdI : Option (Nat × Rt) → Int
  | none => -1
  | some (i, _) => i
def findF (l : List Rt) (a : Int) : Rt × Bool := match fndN l a l.length with
  | none => (zRt, false)
  | some (_, x) => (x, true)
theorem fnd_step {l : List Rt} {a : Int} {i : Nat} {x : Rt} (h : l[i]? = some x) : fndN l a (i + 1) = fd1 a (fndN l a i) i x := by rw [fndN, h]
theorem fnd_at {l : List Rt} {a : Int} : ∀ {i j : Nat} {x : Rt}, fndN l a i = some (j, x) → l[j]? = some x ∧ j < i
  | 0, j, x, h => by cases h
  | i + 1, j, x, h => by
    unfold fndN at h
    cases hy : l[i]? with
    | none =>
      rw [hy] at h
      obtain ⟨h1, h2⟩ := fnd_at (i := i) h
      exact ⟨h1, by omega⟩
    | some y =>
      rw [hy] at h
      unfold fd1 at h
      simp only at h
      split at h
      · split at h
        · cases h; exact ⟨hy, by omega⟩
        · rename_i q k z hq
          split at h
          · cases h; exact ⟨hy, by omega⟩
          · cases h
            obtain ⟨h1, h2⟩ := fnd_at (i := i) hq
            exact ⟨h1, by omega⟩
      · obtain ⟨h1, h2⟩ := fnd_at (i := i) h
        exact ⟨h1, by omega⟩
abbrev RFd (x : Rt × Bool) : AV → Sp → Prop := fun r S => r = .tup [x.1.av, Bo x.2] ∧ S = []
theorem pFdR {x : Rt × Bool} : ∀ r S1, (r = .tup [x.1.av, Bo x.2] ∧ S1 = []) → plainA r = true ∧ PlainS S1 := pA rfl
abbrev zRtC : List AV := [I 0, I 0, I 0, I 0, I 0]
theorem pFind_ok (l : List Rt) (a : Int) (hl : l.length < 100000000) : FnR Try.prog 33 [rsRt l, I a] (RFd (findF l a)) := by
  refine fnR_intro (T := TT) (n := 45) Try.func33 rfl rfl rfl (fun w Z => ?_)
  (repeat (first | refine r_end ?_ | (refine r_op ?_; first | refine r_pure hT rfl rfl rfl rfl rfl rfl ?_ | refine r_alloc hT rfl rfl rfl rfl rfl rfl rfl rfl rfl ?_) | refine gi_seq ?_ | refine gi_plain ?_ | refine gi_block ?_))
  refine gi_loop (σ := Nat) (fun i => [(11, I (i : Int)), (10, I (l.length : Int)), (9, rsRt l), (6, I (fdI (fndN l a i))), (0, rsRt l), (1, I a), (4, .box 0 0)]) (fun _ => [some (67, zRtC)]) (fun _ => []) (fun i => i ≤ l.length) (fun i => l.length - i) 0 (Nat.zero_le _) ⟨rfl, by show some (I (((l.map Rt.row).length : Nat) : Int)) = _; rw [List.length_map], rfl, rfl, rfl, rfl, rfl, trivial⟩ ⟨rfl, trivial⟩ trivial (fun _ => rfl) (fun i hi next => ?_)
  have hi : i ≤ l.length := hi
  (repeat (first | refine r_end ?_ | (refine r_op ?_; refine r_pure hT rfl rfl rfl rfl rfl rfl ?_) | refine gi_seq ?_ | refine gi_plain ?_))
  refine gi_lt (p := (i : Int)) (q := (l.length : Int)) rfl (fun h3 => ?_) (fun h3 => ?_)
  · obtain ⟨x, hx⟩ : ∃ x, l[i]? = some x := ⟨_, List.getElem?_eq_getElem (by omega)⟩
    have hst := fnd_step (a := a) hx
    have hat := fun j y h => fnd_at (l := l) (a := a) (i := i) (j := j) (x := y) h
    have on : ∀ m', fndN l a (i + 1) = m' → ∀ F1 H1 S1, SubF [(11, I (wr .i64 ((i : Int) + 1))), (10, I (l.length : Int)), (9, rsRt l), (6, I (fdI m')), (0, rsRt l), (1, I a), (4, .box 0 0)] F1 → SubH [some (67, zRtC)] H1 → SubS [] S1 → GI _ _ F1 H1 S1 := fun m' hm' F1 H1 S1 hF hH hS => by
      refine next (i + 1) F1 H1 S1 (by omega) (by omega) ?_ hH hS
      rw [wadd1 (by omega)] at hF
      rw [hm']
      exact hF
    clear next
    generalize fndN l a i = m at hst hat
    unfold fd1 at hst
    (repeat (first | (refine r_op ?_; refine r_pure hT rfl rfl rfl rfl rfl rfl ?_) | refine gi_seq ?_ | refine gi_plain ?_ | refine gi_skip ?_ | refine gi_block ?_))
    refine r_idx (row := x.row) hT rfl rfl rfl rfl rfl rfl rfl rfl rfl rfl rfl rfl (nn i) (by simp [hx]) ?_
    (repeat (first | refine r_end ?_ | (refine r_op ?_; first | refine r_pure hT rfl rfl rfl rfl rfl rfl ?_ | refine r_load hT rfl rfl rfl rfl rfl rfl rfl rfl rfl ?_ | refine r_store hT rfl rfl rfl rfl rfl rfl rfl rfl rfl rfl ?_ | refine r_alloc hT rfl rfl rfl rfl rfl rfl rfl rfl rfl ?_) | refine gi_seq ?_))
    refine gi_drawM [] [(0, .p), (1, .p), (3, .p), (2, .t), (4, .t), (5, .o), (6, .p), (7, .p), (8, .p), (9, .p), (10, .p), (12, .p), (13, .p), (14, .p), (15, .p), (11, .t), (16, .t), (17, .p), (18, .p), (19, .p)] [0, 0, 2, 0, 8, 21, 32, 64, 192, 320, 512, 1536, 512, 512, 12800, 16896, 33280, 68096, 131648, 262208] [0, 0, 2, 0, 8, 21, 32, 64, 192, 320, 512, 1536, 512, 512, 12800, 16896, 33280, 68096, 131648, 262208] Kt.hm rfl (by kernel_rfl) (fun w1 K => ?_)
    (repeat ((refine r_op ?_; first | refine r_pure hT rfl rfl rfl rfl rfl rfl ?_ | refine r_load hT rfl rfl rfl rfl rfl rfl rfl rfl rfl ?_)))
    refine r_call (In_ok a x.p x.b) rfl rfl rfl rfl rfl rfl rfl rfl Try.func48 rfl rfl rfl pB ?_
    rintro r S1 ⟨rfl, rfl⟩
    (repeat ((refine r_op ?_; refine r_pure hT rfl rfl rfl rfl rfl rfl ?_)))
    refine r_case (d := 22) rfl (fun c1 => ?_) (fun c1 => ?_)
    · rw [c1] at hst
      simp only at hst
      cases m with
      | none =>
        (repeat ((refine r_op ?_; refine r_pure hT rfl rfl rfl rfl rfl rfl ?_)))
        refine r_known (d := 25) (b := true) rfl (by rw [ltB_eq]; rfl) ?_
        (repeat (first | refine r_end ?_ | (refine r_op ?_; first | refine r_pure hT rfl rfl rfl rfl rfl rfl ?_ | refine r_off rfl rfl rfl rfl rfl ?_) | refine gi_plain ?_ | refine gi_inBlock ?_ | (refine gi_cnd ?_; first | refine gi_true rfl ?_ | refine gi_false rfl ?_)))
        exact on _ hst _ _ _ ⟨rfl, rfl, rfl, rfl, rfl, rfl, rfl, trivial⟩ ⟨rfl, trivial⟩ trivial
      | some q =>
        obtain ⟨j, y⟩ := q
        obtain ⟨hy, hj⟩ := hat j y rfl
        simp only at hst
        (repeat ((refine r_op ?_; refine r_pure hT rfl rfl rfl rfl rfl rfl ?_)))
        refine r_known (d := 25) (b := false) rfl (by rw [ltB_eq]; exact decide_eq_false (by show ¬ (j : Int) < 0; omega)) ?_
        (repeat ((refine r_op ?_; refine r_pure hT rfl rfl rfl rfl rfl rfl ?_)))
        refine r_idx (row := y.row) (j := (j : Int)) hT rfl rfl rfl rfl rfl rfl rfl rfl rfl rfl rfl rfl (nn j) (by simp [hy]) ?_
        (repeat (first | refine r_end ?_ | (refine r_op ?_; first | refine r_pure hT rfl rfl rfl rfl rfl rfl ?_ | refine r_load hT rfl rfl rfl rfl rfl rfl rfl rfl rfl ?_)))
        refine gi_cond rfl (fun c2 => ?_) (fun c2 => ?_)
        · rw [c2] at hst
          (repeat (first | refine r_end ?_ | (refine r_op ?_; refine r_pure hT rfl rfl rfl rfl rfl rfl ?_) | refine gi_plain ?_ | refine gi_inBlock ?_))
          exact on _ hst _ _ _ ⟨rfl, rfl, rfl, rfl, rfl, rfl, rfl, trivial⟩ ⟨rfl, trivial⟩ trivial
        · rw [c2] at hst
          (repeat (first | refine r_end ?_ | (refine r_op ?_; refine r_pure hT rfl rfl rfl rfl rfl rfl ?_) | refine gi_plain ?_ | refine gi_skip ?_ | refine gi_inBlock ?_))
          exact on _ hst _ _ _ ⟨rfl, rfl, rfl, rfl, rfl, rfl, rfl, trivial⟩ ⟨rfl, trivial⟩ trivial
    · rw [c1] at hst
      (repeat (first | refine r_end ?_ | (refine r_op ?_; first | refine r_pure hT rfl rfl rfl rfl rfl rfl ?_ | refine r_off rfl rfl rfl rfl rfl ?_) | refine gi_plain ?_ | refine gi_skip ?_ | refine gi_inBlock ?_ | (refine gi_cnd ?_; first | refine gi_true rfl ?_ | refine gi_false rfl ?_)))
      exact on _ hst _ _ _ ⟨rfl, rfl, rfl, rfl, rfl, rfl, rfl, trivial⟩ ⟨rfl, trivial⟩ trivial
  · have hil : i = l.length := by omega
    subst hil
    unfold findF
    have hat := fun j y h => fnd_at (l := l) (a := a) (i := l.length) (j := j) (x := y) h
    generalize fndN l a l.length = m at hat
    cases m with
    | none =>
      (repeat (first | refine r_end ?_ | (refine r_op ?_; refine r_pure hT rfl rfl rfl rfl rfl rfl ?_) | refine gi_seq ?_ | refine gi_plain ?_ | refine gi_exit rfl ?_))
      refine gi_known (d := 39) (b := true) rfl (by rw [ltB_eq]; rfl) ?_
      (repeat (first | refine r_end ?_ | (refine r_op ?_; first | refine r_pure hT rfl rfl rfl rfl rfl rfl ?_ | refine r_store hT rfl rfl rfl rfl rfl rfl rfl rfl rfl rfl ?_) | refine gi_seq ?_ | refine gi_plain ?_ | (refine gi_cnd ?_; first | refine gi_true rfl ?_ | refine gi_false rfl ?_)))
      refine gi_retW hT Try.func33 rfl rfl [] rfl rfl rfl rfl ?_
      exact ⟨rfl, rfl⟩
    | some q =>
      obtain ⟨j, y⟩ := q
      obtain ⟨hy, hj⟩ := hat j y rfl
      (repeat (first | refine r_end ?_ | (refine r_op ?_; refine r_pure hT rfl rfl rfl rfl rfl rfl ?_) | refine gi_seq ?_ | refine gi_plain ?_ | refine gi_exit rfl ?_))
      refine gi_known (d := 39) (b := false) rfl (by rw [ltB_eq]; exact decide_eq_false (by show ¬ (j : Int) < 0; omega)) ?_
      (repeat (first | (refine r_op ?_; refine r_pure hT rfl rfl rfl rfl rfl rfl ?_) | refine gi_seq ?_ | refine gi_plain ?_ | refine gi_skip ?_ | (refine gi_cnd ?_; first | refine gi_true rfl ?_ | refine gi_false rfl ?_)))
      refine r_idx (row := y.row) (j := (j : Int)) hT rfl rfl rfl rfl rfl rfl rfl rfl rfl rfl rfl rfl (nn j) (by simp [hy]) ?_
      (repeat (first | refine r_end ?_ | (refine r_op ?_; first | refine r_pure hT rfl rfl rfl rfl rfl rfl ?_ | refine r_load hT rfl rfl rfl rfl rfl rfl rfl rfl rfl ?_ | refine r_store hT rfl rfl rfl rfl rfl rfl rfl rfl rfl rfl ?_)))
      refine gi_retW hT Try.func33 rfl rfl [] rfl rfl rfl rfl ?_
      exact ⟨rfl, rfl⟩
theorem rFind_ok (l : List Rt) (a : Int) (hl : l.length < 100000000) : FnR Try.prog 34 [rsRt l, I a] (RFd (findF l a)) := by
  refine fnR_intro (T := TT) (n := 51) Try.func34 rfl rfl rfl (fun w Z => ?_)
  (repeat (first | refine r_end ?_ | (refine r_op ?_; first | refine r_pure hT rfl rfl rfl rfl rfl rfl ?_ | refine r_alloc hT rfl rfl rfl rfl rfl rfl rfl rfl rfl ?_) | refine gi_seq ?_ | refine gi_plain ?_ | refine gi_block ?_))
  refine gi_loop (σ := Nat) (fun i => [(7, I (i : Int)), (6, I (fdI (fndN l a i))), (0, rsRt l), (1, I a), (4, .box 0 0)]) (fun _ => [some (67, zRtC)]) (fun _ => []) (fun i => i ≤ l.length) (fun i => l.length - i) 0 (Nat.zero_le _) ⟨rfl, rfl, rfl, rfl, rfl, trivial⟩ ⟨rfl, trivial⟩ trivial (fun _ => rfl) (fun i hi next => ?_)
  have hi : i ≤ l.length := hi
  (repeat (first | refine r_end ?_ | (refine r_op ?_; refine r_pure hT rfl rfl rfl rfl rfl rfl ?_) | refine gi_seq ?_ | refine gi_plain ?_))
  refine gi_lt (p := (i : Int)) (q := ((l.map Rt.row).length : Int)) rfl (fun h3 => ?_) (fun h3 => ?_)
  · rw [List.length_map] at h3
    obtain ⟨x, hx⟩ : ∃ x, l[i]? = some x := ⟨_, List.getElem?_eq_getElem (by omega)⟩
    have hst := fnd_step (a := a) hx
    have hat := fun j y h => fnd_at (l := l) (a := a) (i := i) (j := j) (x := y) h
    have on : ∀ m', fndN l a (i + 1) = m' → ∀ F1 H1 S1, SubF [(7, I (wr .i64 ((i : Int) + 1))), (6, I (fdI m')), (0, rsRt l), (1, I a), (4, .box 0 0)] F1 → SubH [some (67, zRtC)] H1 → SubS [] S1 → GI _ _ F1 H1 S1 := fun m' hm' F1 H1 S1 hF hH hS => by
      refine next (i + 1) F1 H1 S1 (by omega) (by omega) ?_ hH hS
      rw [wadd1 (by omega)] at hF
      rw [hm']
      exact hF
    clear next
    generalize fndN l a i = m at hst hat
    unfold fd1 at hst
    (repeat (first | refine gi_seq ?_ | refine gi_skip ?_ | refine gi_block ?_))
    refine gi_drawM [] [(0, .p), (1, .p), (2, .p), (3, .p), (4, .p), (6, .p), (7, .p), (8, .p), (9, .p), (5, .t), (10, .t), (11, .o), (12, .p), (13, .p), (14, .p), (15, .p), (16, .p), (17, .p), (18, .p), (19, .p), (21, .p), (22, .p), (23, .p), (24, .p), (20, .t), (25, .t), (26, .p), (27, .p), (28, .p)] [0, 0, 0, 6, 8, 16, 0, 0, 192, 256, 512, 1057, 2048, 4096, 12288, 20480, 32768, 32768, 229376, 294912, 557056, 32768, 32768, 6324224, 8421376, 16809984, 34635776, 67145728, 134221824] [0, 0, 0, 6, 8, 16, 0, 0, 192, 256, 512, 1057, 2048, 4096, 12288, 20480, 32768, 32768, 229376, 294912, 557056, 32768, 32768, 6324224, 8421376, 16809984, 34635776, 67145728, 134221824] Kt.hm rfl (by kernel_rfl) (fun w1 K => ?_)
    (repeat ((refine r_op ?_; refine r_pure hT rfl rfl rfl rfl rfl rfl ?_)))
    refine r_idx (row := x.row) hT rfl rfl rfl rfl rfl rfl rfl rfl rfl rfl rfl rfl (nn i) (by simp [hx]) ?_
    (repeat ((refine r_op ?_; refine r_pure hT rfl rfl rfl rfl rfl rfl ?_)))
    refine r_idx (row := x.row) hT rfl rfl rfl rfl rfl rfl rfl rfl rfl rfl rfl rfl (nn i) (by simp [hx]) ?_
    (repeat ((refine r_op ?_; first | refine r_pure hT rfl rfl rfl rfl rfl rfl ?_ | refine r_load hT rfl rfl rfl rfl rfl rfl rfl rfl rfl ?_)))
    refine r_call (rIn_ok a x.p x.b) rfl rfl rfl rfl rfl rfl rfl rfl Try.func26 rfl rfl rfl pB ?_
    rintro r S1 ⟨rfl, rfl⟩
    (repeat ((refine r_op ?_; refine r_pure hT rfl rfl rfl rfl rfl rfl ?_)))
    refine r_case (d := 26) rfl (fun c1 => ?_) (fun c1 => ?_)
    · rw [in_same] at c1
      rw [c1] at hst
      simp only at hst
      cases m with
      | none =>
        (repeat ((refine r_op ?_; refine r_pure hT rfl rfl rfl rfl rfl rfl ?_)))
        refine r_known (d := 29) (b := true) rfl (by rw [ltB_eq]; rfl) ?_
        (repeat (first | refine r_end ?_ | (refine r_op ?_; first | refine r_pure hT rfl rfl rfl rfl rfl rfl ?_ | refine r_off rfl rfl rfl rfl rfl ?_) | refine gi_plain ?_ | refine gi_inBlock ?_ | (refine gi_cnd ?_; first | refine gi_true rfl ?_ | refine gi_false rfl ?_)))
        exact on _ hst _ _ _ ⟨rfl, rfl, rfl, rfl, rfl, trivial⟩ ⟨rfl, trivial⟩ trivial
      | some q =>
        obtain ⟨j, y⟩ := q
        obtain ⟨hy, hj⟩ := hat j y rfl
        simp only at hst
        (repeat ((refine r_op ?_; refine r_pure hT rfl rfl rfl rfl rfl rfl ?_)))
        refine r_known (d := 29) (b := false) rfl (by rw [ltB_eq]; exact decide_eq_false (by show ¬ (j : Int) < 0; omega)) ?_
        (repeat ((refine r_op ?_; refine r_pure hT rfl rfl rfl rfl rfl rfl ?_)))
        refine r_idx (row := x.row) hT rfl rfl rfl rfl rfl rfl rfl rfl rfl rfl rfl rfl (nn i) (by simp [hx]) ?_
        (repeat ((refine r_op ?_; refine r_pure hT rfl rfl rfl rfl rfl rfl ?_)))
        refine r_idx (row := y.row) (j := (j : Int)) hT rfl rfl rfl rfl rfl rfl rfl rfl rfl rfl rfl rfl (nn j) (by simp [hy]) ?_
        (repeat (first | refine r_end ?_ | (refine r_op ?_; first | refine r_pure hT rfl rfl rfl rfl rfl rfl ?_ | refine r_load hT rfl rfl rfl rfl rfl rfl rfl rfl rfl ?_)))
        refine gi_cond rfl (fun c2 => ?_) (fun c2 => ?_)
        · rw [c2] at hst
          (repeat (first | refine r_end ?_ | (refine r_op ?_; refine r_pure hT rfl rfl rfl rfl rfl rfl ?_) | refine gi_plain ?_ | refine gi_inBlock ?_))
          exact on _ hst _ _ _ ⟨rfl, rfl, rfl, rfl, rfl, trivial⟩ ⟨rfl, trivial⟩ trivial
        · rw [c2] at hst
          (repeat (first | refine r_end ?_ | (refine r_op ?_; refine r_pure hT rfl rfl rfl rfl rfl rfl ?_) | refine gi_plain ?_ | refine gi_skip ?_ | refine gi_inBlock ?_))
          exact on _ hst _ _ _ ⟨rfl, rfl, rfl, rfl, rfl, trivial⟩ ⟨rfl, trivial⟩ trivial
    · rw [in_same] at c1
      rw [c1] at hst
      (repeat (first | refine r_end ?_ | (refine r_op ?_; first | refine r_pure hT rfl rfl rfl rfl rfl rfl ?_ | refine r_off rfl rfl rfl rfl rfl ?_) | refine gi_plain ?_ | refine gi_skip ?_ | refine gi_inBlock ?_ | (refine gi_cnd ?_; first | refine gi_true rfl ?_ | refine gi_false rfl ?_)))
      exact on _ hst _ _ _ ⟨rfl, rfl, rfl, rfl, rfl, trivial⟩ ⟨rfl, trivial⟩ trivial
  · rw [List.length_map] at h3
    have hil : i = l.length := by omega
    subst hil
    unfold findF
    have hat := fun j y h => fnd_at (l := l) (a := a) (i := l.length) (j := j) (x := y) h
    generalize fndN l a l.length = m at hat
    cases m with
    | none =>
      (repeat (first | refine r_end ?_ | (refine r_op ?_; refine r_pure hT rfl rfl rfl rfl rfl rfl ?_) | refine gi_seq ?_ | refine gi_plain ?_ | refine gi_exit rfl ?_))
      refine gi_known (d := 45) (b := true) rfl (by rw [ltB_eq]; rfl) ?_
      (repeat (first | refine r_end ?_ | (refine r_op ?_; first | refine r_pure hT rfl rfl rfl rfl rfl rfl ?_ | refine r_store hT rfl rfl rfl rfl rfl rfl rfl rfl rfl rfl ?_) | refine gi_seq ?_ | refine gi_plain ?_ | (refine gi_cnd ?_; first | refine gi_true rfl ?_ | refine gi_false rfl ?_)))
      refine gi_retW hT Try.func34 rfl rfl [] rfl rfl rfl rfl ?_
      exact ⟨rfl, rfl⟩
    | some q =>
      obtain ⟨j, y⟩ := q
      obtain ⟨hy, hj⟩ := hat j y rfl
      (repeat (first | refine r_end ?_ | (refine r_op ?_; refine r_pure hT rfl rfl rfl rfl rfl rfl ?_) | refine gi_seq ?_ | refine gi_plain ?_ | refine gi_exit rfl ?_))
      refine gi_known (d := 45) (b := false) rfl (by rw [ltB_eq]; exact decide_eq_false (by show ¬ (j : Int) < 0; omega)) ?_
      (repeat (first | (refine r_op ?_; refine r_pure hT rfl rfl rfl rfl rfl rfl ?_) | refine gi_seq ?_ | refine gi_plain ?_ | refine gi_skip ?_ | (refine gi_cnd ?_; first | refine gi_true rfl ?_ | refine gi_false rfl ?_)))
      refine r_idx (row := y.row) (j := (j : Int)) hT rfl rfl rfl rfl rfl rfl rfl rfl rfl rfl rfl rfl (nn j) (by simp [hy]) ?_
      (repeat (first | refine r_end ?_ | (refine r_op ?_; first | refine r_pure hT rfl rfl rfl rfl rfl rfl ?_ | refine r_load hT rfl rfl rfl rfl rfl rfl rfl rfl rfl ?_ | refine r_store hT rfl rfl rfl rfl rfl rfl rfl rfl rfl rfl ?_)))
      refine gi_retW hT Try.func34 rfl rfl [] rfl rfl rfl rfl ?_
      exact ⟨rfl, rfl⟩
end Go.Proofs.Ytmocggibcniggaa.Kt
namespace Go.Proofs.Ytmocggibcniggaa.Kt
open Go Kw Go.Proofs
attribute [local irreducible] Kw.GI Kw.GR Kw.FnR Kw.FnX Kw.FnI
set_option maxHeartbeats 16000000
set_option maxRecDepth 100000
theorem tre_of {l : List Ls} (hf : Few l) (v : Vt) : Tre (refTree (mapL l) v) := by
  by_cases hv : v ∈ (mapL l).vs
  · exact (tr_of hf hv).tre
  · unfold refTree
    rw [show (mapL l).vs.any (fun x => decide (x = v)) = false from ?_]
    · exact tre_nil
    · rw [← Bool.not_eq_true, List.any_eq_true]
      rintro ⟨y, hy, he⟩
      exact hv (of_decide_eq_true he ▸ hy)
/-- What is told of a router. -/
abbrev rawL (l : List Ls) (self : Int) : List Rt := rawR (mapL l) (refTree (mapL l) ⟨1, self⟩)
theorem RoutesL (l : List Ls) (self : Int) (hf : Few l) : FnX Try.prog 30 [avMf (mapL l), I self] [] [] (RRts (rawL l self)) := Routes_ok l self hf (tre_of hf ⟨1, self⟩)
theorem pRts {L : List Rt} : ∀ r H1 S1, RRts L r H1 S1 → stA r = true ∧ StH H1 ∧ StS S1 := by
  rintro r H S ⟨rfl, rfl, L', rfl, _⟩
  exact ⟨stLL_Rt L', StH.nil, stS_nil⟩
theorem rtOk_nil {L : List Rt} (h : RtOk [] L) : L = [] := by
  obtain ⟨q, h1, _, rfl⟩ := h
  have : q = [] := List.eq_nil_of_length_eq_zero h1.len
  subst this
  rfl
theorem rtOk_one {x : Rt} {L : List Rt} (h : RtOk [x] L) : L = [x] := by
  obtain ⟨q, h1, _, rfl⟩ := h
  have hl : q.length = 1 := h1.len
  match q, hl, h1 with
  | [y], _, h1 =>
    have := (h1.stb.mem (x := y)).1 (List.mem_singleton.2 rfl)
    rw [List.mem_singleton.1 this]
    exact cpN_one rfl
theorem raw0 : rawL l0 1 = [⟨51456, 24, 1, 0, 0⟩] := by kernel_rfl
theorem few_nil : Few [] := ⟨Nat.zero_le _, fun x h => (nomatch h), fun x h => (nomatch h)⟩
theorem CL_mapN {E : Env} {w : World} {us : List Value} {s : Int} (h : CL E w [.agg [nilA, nilA, nilA, nilA, nilA], I s] us) : CL E w [avMf (mapL []), I s] us := by
  unfold CL at h ⊢
  obtain ⟨u, r, rfl, h1, h2⟩ := h
  refine ⟨u, r, rfl, ?_, h2⟩
  unfold C at h1 ⊢
  obtain ⟨vs, rfl, h3, h4⟩ := h1
  refine ⟨vs, rfl, ?_, h4⟩
  have a1 := CL_setx (x := nilA) (y := .r (.fs 2 [])) (j := 0) (fun u hu => C_nil_fs hu) rfl h3
  have a2 := CL_setx (x := nilA) (y := .r (.fs 6 [])) (j := 1) (fun u hu => C_nil_fs hu) rfl a1
  have a3 := CL_setx (x := nilA) (y := .r (.fs 4 [])) (j := 2) (fun u hu => C_nil_fs hu) rfl a2
  have a4 := CL_setx (x := nilA) (y := .r (.fs 4 [])) (j := 3) (fun u hu => C_nil_fs hu) rfl a3
  exact CL_setx (x := nilA) (y := .r (.fs 1 [])) (j := 4) (fun u hu => C_nil_fs hu) rfl a4
theorem Routes0 (s : Int) : FnX Try.prog 30 [.agg [nilA, nilA, nilA, nilA, nilA], I s] [] [] (RRts (rawL [] s)) :=
  fnX_args (RoutesL [] s few_nil) (fun _ _ _ h => CL_mapN h)
theorem awake19_ok : FnR Try.prog 32 [] (RB true) := by
  refine fnR_intro (T := TT) (n := 21) Try.func32 rfl rfl rfl (fun w Z => ?_)
  (repeat (first | refine r_end ?_ | (refine r_op ?_; refine r_pure hT rfl rfl rfl rfl rfl rfl ?_) | refine gi_seq ?_ | refine gi_plain ?_))
  refine r_callX [] [] (Graph0n) rfl rfl rfl rfl rfl rfl Try.func28 rfl rfl rfl rfl rfl rfl rfl p0G ?_
  rintro r H1 S1 ⟨rfl, rfl, rfl⟩
  refine r_freeze 0 rfl (frz_seO l0) ?_
  skip
  refine r_call (MapF l0 few0) rfl rfl rfl rfl rfl rfl rfl rfl Try.func15 rfl rfl rfl pMapP ?_
  rintro r S1 ⟨rfl, rfl⟩
  refine r_freeze 1 (L' := (mapL l0).vs.map Vt.row) rfl rfl ?_
  refine r_freeze 2 (L' := (mapL l0).es.map Eg.row) rfl rfl ?_
  refine r_freeze 3 (L' := (mapL l0).sb.map Sb.row) rfl rfl ?_
  refine r_freeze 4 (L' := (mapL l0).sn.map Sn.row) rfl rfl ?_
  refine r_freeze 5 (L' := (mapL l0).wl.map nRow) rfl rfl ?_
  skip
  refine r_callX [] [] (RoutesL l0 1 few0) rfl rfl rfl rfl rfl rfl Try.func30 rfl rfl rfl rfl rfl rfl rfl pRts ?_
  rintro r H1 S1 ⟨rfl, rfl, L1, rfl, hL1⟩
  rw [raw0] at hL1
  have := rtOk_one hL1
  subst this
  (repeat (first | refine r_end ?_ | (refine r_op ?_; refine r_pure hT rfl rfl rfl rfl rfl rfl ?_) | refine gi_seq ?_ | refine gi_plain ?_))
  refine r_callX [] [] (Routes0 1) rfl rfl rfl rfl rfl rfl Try.func30 rfl rfl rfl rfl rfl rfl rfl pRts ?_
  rintro r H1 S1 ⟨rfl, rfl, L2, rfl, hL2⟩
  have := rtOk_nil hL2
  subst this
  (repeat ((refine r_op ?_; refine r_pure hT rfl rfl rfl rfl rfl rfl ?_)))
  refine r_known (d := 9) (b := true) rfl (by rw [eqB_eq]; rfl) ?_
  (repeat ((refine r_op ?_; refine r_pure hT rfl rfl rfl rfl rfl rfl ?_)))
  refine r_known (d := 14) (b := true) rfl (by rw [eqB_eq]; rfl) ?_
  (repeat ((refine r_op ?_; refine r_pure hT rfl rfl rfl rfl rfl rfl ?_)))
  refine r_thaw 15 rfl ?_
  refine r_idx (row := (⟨51456, 24, 1, 0, 0⟩ : Rt).row) hT rfl rfl rfl rfl rfl rfl rfl rfl rfl rfl rfl rfl (by decide) (by rfl) ?_
  (repeat (first | refine r_end ?_ | (refine r_op ?_; first | refine r_pure hT rfl rfl rfl rfl rfl rfl ?_ | refine r_load hT rfl rfl rfl rfl rfl rfl rfl rfl rfl ?_)))
  refine gi_retW hT Try.func32 rfl rfl [] rfl rfl rfl rfl ?_
  exact ⟨by rw [eqB_eq]; rfl, rfl⟩
theorem y_flat_Rt : flatK Try.prog 67 = some [some .i64, some .i64, some .i64, some .i64, some .i64] := by kernel_rfl
theorem rtEq_self (x : Rt) : notB (eqB x.p x.p && (eqB x.b x.b && (eqB x.c x.c && (eqB x.o x.o && (eqB x.n x.n && true))))) = false := by
  rw [notB_eq, eqB_eq, eqB_eq, eqB_eq, eqB_eq, eqB_eq]; simp
theorem Same_ok (l : List Rt) (hl : l.length < 100000000) : FnR Try.prog 29 [rsRt l, rsRt l] (RB true) := by
  refine fnR_intro (T := TT) (n := 26) Try.func29 rfl rfl rfl (fun w Z => ?_)
  (repeat (first | refine r_end ?_ | (refine r_op ?_; refine r_pure hT rfl rfl rfl rfl rfl rfl ?_) | refine gi_seq ?_ | refine gi_plain ?_))
  refine gi_known (d := 10) (b := false) rfl (by rw [notB_eq, eqB_eq]; simp) ?_
  (repeat (first | refine r_end ?_ | (refine r_op ?_; refine r_pure hT rfl rfl rfl rfl rfl rfl ?_) | refine gi_seq ?_ | refine gi_plain ?_ | refine gi_skip ?_ | refine gi_block ?_ | (refine gi_cnd ?_; first | refine gi_true rfl ?_ | refine gi_false rfl ?_)))
  refine gi_loop (σ := Nat) (fun j => [(5, I (j : Int)), (1, rsRt l), (0, rsRt l)]) (fun _ => []) (fun _ => []) (fun j => j ≤ l.length) (fun j => l.length - j) 0 (Nat.zero_le _) ⟨rfl, rfl, rfl, trivial⟩ trivial trivial (fun _ => rfl) (fun j hj next => ?_)
  have hj : j ≤ l.length := hj
  (repeat (first | refine r_end ?_ | (refine r_op ?_; refine r_pure hT rfl rfl rfl rfl rfl rfl ?_) | refine gi_seq ?_ | refine gi_plain ?_))
  refine gi_lt (p := (j : Int)) (q := ((l.map Rt.row).length : Int)) rfl (fun h3 => ?_) (fun h3 => ?_)
  · rw [List.length_map] at h3
    obtain ⟨x, hx⟩ : ∃ x, l[j]? = some x := ⟨_, List.getElem?_eq_getElem (by omega)⟩
    (repeat (first | refine gi_seq ?_ | refine gi_skip ?_ | refine gi_block ?_))
    refine gi_drawM [] [(0, .p), (1, .p), (2, .p), (4, .p), (5, .p), (6, .p), (3, .t), (7, .t), (8, .p)] [0, 0, 3, 4, 0, 0, 48, 64, 136] [0, 0, 3, 4, 0, 0, 48, 64, 136] Kt.hm rfl (by kernel_rfl) (fun w1 K => ?_)
    (repeat ((refine r_op ?_; refine r_pure hT rfl rfl rfl rfl rfl rfl ?_)))
    refine r_idx (row := x.row) hT rfl rfl rfl rfl rfl rfl rfl rfl rfl rfl rfl rfl (nn j) (by simp [hx]) ?_
    (repeat ((refine r_op ?_; refine r_pure hT rfl rfl rfl rfl rfl rfl ?_)))
    refine r_idx (row := x.row) hT rfl rfl rfl rfl rfl rfl rfl rfl rfl rfl rfl rfl (nn j) (by simp [hx]) ?_
    (repeat ((refine r_op ?_; refine r_load hT rfl rfl rfl rfl rfl rfl rfl rfl rfl ?_)))
    refine r_neT _ rfl rfl rfl rfl rfl rfl rfl rfl rfl y_flat_Rt ?_
    (repeat (refine r_end ?_))
    refine gi_known (d := 25) (b := false) rfl (rtEq_self x) ?_
    (repeat (first | refine r_end ?_ | (refine r_op ?_; refine r_pure hT rfl rfl rfl rfl rfl rfl ?_) | refine gi_plain ?_ | refine gi_skip ?_ | refine gi_inBlock ?_ | (refine gi_cnd ?_; first | refine gi_true rfl ?_ | refine gi_false rfl ?_)))
    refine next (j + 1) _ _ _ (by omega) (by omega) ⟨?_, rfl, rfl, trivial⟩ trivial trivial
    show some (I (wr .i64 ((j : Int) + 1))) = _
    rw [wadd1 (by omega)]
  · (repeat (first | refine r_end ?_ | (refine r_op ?_; refine r_pure hT rfl rfl rfl rfl rfl rfl ?_) | refine gi_seq ?_ | refine gi_plain ?_ | refine gi_exit rfl ?_))
    refine gi_retW hT Try.func29 rfl rfl [] rfl rfl rfl rfl ?_
    exact ⟨rfl, rfl⟩
end Go.Proofs.Ytmocggibcniggaa.Kt
namespace Go.Proofs.Ytmocggibcniggaa.Kt
open Go Kw Go.Proofs
set_option maxHeartbeats 4000000
set_option maxRecDepth 100000
/-! ### of each net the best: two ways to the same list -/
def pbL (x y : Rt) : Prop := x.p < y.p ∨ (x.p = y.p ∧ x.b < y.b)
instance (x y : Rt) : Decidable (pbL x y) := by unfold pbL; exact inferInstance
def pbE (x y : Rt) : Prop := x.p = y.p ∧ x.b = y.b
instance (x y : Rt) : Decidable (pbE x y) := by unfold pbE; exact inferInstance
def insT : List Rt → Rt → List Rt
  | [], r => [r]
  | x :: l, r => if pbL x r then x :: insT l r else if pbE x r then (if r.c < x.c then r :: l else x :: l) else r :: x :: l
def refR (L : List Rt) : List Rt := L.foldl insT []
theorem refR_snoc (L : List Rt) (r : Rt) : refR (L ++ [r]) = insT (refR L) r := by unfold refR; rw [List.foldl_append]; rfl
theorem insT_at {r : Rt} : ∀ {l : List Rt} {a : Nat}, a ≤ l.length → (∀ (i : Nat) x, i < a → l[i]? = some x → pbL x r) → (∀ x, l[a]? = some x → ¬ pbL x r) → insT l r = match l[a]? with
    | some x => if pbE x r then (if r.c < x.c then l.set a r else l) else l.take a ++ r :: l.drop a
    | none => l.take a ++ r :: l.drop a
  | [], a, h, _, _ => by
    have : a = 0 := by simpa using h
    subst this; rfl
  | x :: l, 0, _, _, h2 => by
    have := h2 x rfl
    unfold insT
    rw [if_neg this]
    rfl
  | x :: l, a + 1, h, h1, h2 => by
    have hx := h1 0 x (by omega) rfl
    have ih := insT_at (r := r) (l := l) (a := a) (by simpa using h) (fun i y hi hy => h1 (i + 1) y (by omega) (by simpa using hy)) (fun y hy => h2 y (by simpa using hy))
    unfold insT
    rw [if_pos hx, ih]
    rw [List.getElem?_cons_succ, List.take_succ_cons, List.drop_succ_cons]
    cases l[a]? with
    | none => rfl
    | some y =>
      simp only
      by_cases c1 : pbE y r
      · rw [if_pos c1, if_pos c1]
        by_cases c2 : r.c < y.c
        · rw [if_pos c2, if_pos c2]; rfl
        · rw [if_neg c2, if_neg c2]
      · rw [if_neg c1, if_neg c1]; rfl
theorem insT_len (r : Rt) : ∀ (l : List Rt), (insT l r).length ≤ l.length + 1
  | [] => by simp [insT]
  | x :: l => by
    have := insT_len r l
    unfold insT
    split
    · simp only [List.length_cons]; omega
    · split
      · split <;> simp
      · simp
theorem refR_len : ∀ (L : List Rt), (refR L).length ≤ L.length := by
  have key : ∀ (L M : List Rt), (L.foldl insT M).length ≤ M.length + L.length := by
    intro L
    induction L with
    | nil => intro M; simp
    | cons r L ih =>
      intro M
      rw [List.foldl_cons]
      have := ih (insT M r)
      have := insT_len r M
      rw [List.length_cons]
      omega
  intro L
  have := key L []
  simpa [refR] using this
theorem pbL_tr {x y z : Rt} (h : pbL x y) (h' : pbL y z) : pbL x z := by unfold pbL at *; omega
theorem pbL_irr (x : Rt) : ¬ pbL x x := by unfold pbL; omega
theorem pb_tri {x y : Rt} (h : ¬ pbL x y) (h' : ¬ pbE x y) : pbL y x := by unfold pbL pbE at *; omega
theorem pbE_L {x y z : Rt} (h : pbE x y) (h' : pbL x z) : pbL y z := by unfold pbL pbE at *; omega
theorem pbE_L' {x y z : Rt} (h : pbE x y) (h' : pbL z x) : pbL z y := by unfold pbL pbE at *; omega
theorem pbE_no {x y : Rt} (h : pbE x y) : ¬ pbL x y := by unfold pbL pbE at *; omega
theorem pbE_sy {x y : Rt} (h : pbE x y) : pbE y x := ⟨h.1.symm, h.2.symm⟩
/-- What is in the list behind an insertion. -/
theorem insT_mem {r : Rt} : ∀ {l : List Rt}, l.Pairwise pbL → ∀ {x : Rt}, x ∈ insT l r ↔ (x = r ∧ ∀ y ∈ l, pbE y r → r.c < y.c) ∨ (x ∈ l ∧ ¬ (pbE x r ∧ r.c < x.c))
  | [], _, x => by simp [insT]
  | z :: l, h, x => by
    rw [List.pairwise_cons] at h
    obtain ⟨hz, hl⟩ := h
    unfold insT
    by_cases c1 : pbL z r
    · rw [if_pos c1, List.mem_cons, insT_mem hl, List.mem_cons]
      have hzr : ¬ pbE z r := fun e => pbE_no e c1
      constructor
      · rintro (rfl | ⟨rfl, h1⟩ | ⟨h1, h2⟩)
        · exact .inr ⟨.inl rfl, fun h => hzr h.1⟩
        · refine .inl ⟨rfl, fun y hy he => ?_⟩
          rcases List.mem_cons.1 hy with rfl | hy
          · exact absurd he hzr
          · exact h1 y hy he
        · exact .inr ⟨.inr h1, h2⟩
      · rintro (⟨rfl, h1⟩ | ⟨rfl | h1, h2⟩)
        · exact .inr (.inl ⟨rfl, fun y hy => h1 y (List.mem_cons_of_mem _ hy)⟩)
        · exact .inl rfl
        · exact .inr (.inr ⟨h1, h2⟩)
    · rw [if_neg c1]
      have hno : ∀ y ∈ l, pbE z r → ¬ pbE y r := fun y hy e e' => by
        have := hz y hy
        unfold pbL pbE at *; omega
      by_cases c2 : pbE z r
      · rw [if_pos c2]
        by_cases c3 : r.c < z.c
        · rw [if_pos c3, List.mem_cons, List.mem_cons]
          constructor
          · rintro (rfl | h1)
            · refine .inl ⟨rfl, fun y hy he => ?_⟩
              rcases List.mem_cons.1 hy with rfl | hy
              · exact c3
              · exact absurd he (hno y hy c2)
            · exact .inr ⟨.inr h1, fun h => hno x h1 c2 h.1⟩
          · rintro (⟨rfl, _⟩ | ⟨rfl | h1, h2⟩)
            · exact .inl rfl
            · exact absurd ⟨c2, c3⟩ h2
            · exact .inr h1
        · rw [if_neg c3, List.mem_cons]
          constructor
          · rintro (rfl | h1)
            · exact .inr ⟨.inl rfl, fun h => c3 h.2⟩
            · exact .inr ⟨.inr h1, fun h => hno x h1 c2 h.1⟩
          · rintro (⟨rfl, h1⟩ | ⟨h1, h2⟩)
            · exact absurd (h1 z (List.mem_cons_self ..) c2) c3
            · exact h1
      · rw [if_neg c2, List.mem_cons, List.mem_cons]
        have hall : ∀ y, y = z ∨ y ∈ l → ¬ pbE y r := fun y hy e => by
          have hrz := pb_tri c1 c2
          rcases hy with rfl | hy
          · exact c2 e
          · have := hz y hy
            unfold pbL pbE at *; omega
        constructor
        · rintro (rfl | h1)
          · exact .inl ⟨rfl, fun y hy e => absurd e (hall y (List.mem_cons.1 hy))⟩
          · exact .inr ⟨h1, fun h => hall x h1 h.1⟩
        · rintro (⟨rfl, _⟩ | ⟨h1, _⟩)
          · exact .inl rfl
          · exact .inr h1
theorem insT_pw {r : Rt} : ∀ {l : List Rt}, l.Pairwise pbL → (insT l r).Pairwise pbL
  | [], _ => by simp [insT]
  | z :: l, h => by
    have h0 := h
    rw [List.pairwise_cons] at h
    obtain ⟨hz, hl⟩ := h
    unfold insT
    by_cases c1 : pbL z r
    · rw [if_pos c1, List.pairwise_cons]
      refine ⟨fun y hy => ?_, insT_pw hl⟩
      rcases (insT_mem hl).1 hy with ⟨rfl, _⟩ | ⟨hy, _⟩
      · exact c1
      · exact hz y hy
    · rw [if_neg c1]
      by_cases c2 : pbE z r
      · rw [if_pos c2]
        split
        · rw [List.pairwise_cons]
          exact ⟨fun y hy => pbE_L c2 (hz y hy), hl⟩
        · exact h0
      · rw [if_neg c2, List.pairwise_cons]
        refine ⟨fun y hy => ?_, h0⟩
        have hrz := pb_tri c1 c2
        rcases List.mem_cons.1 hy with rfl | hy
        · exact hrz
        · exact pbL_tr hrz (hz y hy)
/-- The best of its net: the first of those that cost the least. -/
structure Best (L : List Rt) (x : Rt) : Prop where
  le : ∀ y ∈ L, pbE y x → x.c ≤ y.c
  hd : (L.filter (fun y => decide (y.key = x.key))).head? = some x
theorem Best.mem {L : List Rt} {x : Rt} (h : Best L x) : x ∈ L := by
  have := List.mem_of_mem_head? h.hd
  exact (List.mem_filter.1 this).1
theorem key_pb {x y : Rt} (h : x.key = y.key) : pbE x y ∧ x.c = y.c := by
  unfold Rt.key at h
  simp only [Prod.mk.injEq] at h
  exact ⟨⟨h.1, h.2.1⟩, h.2.2⟩
theorem key_of {x y : Rt} (h : pbE x y) (h' : x.c = y.c) : x.key = y.key := by unfold Rt.key; rw [h.1, h.2, h']
theorem best_snoc {L : List Rt} {r x : Rt} : Best (L ++ [r]) x ↔ (x = r ∧ ∀ y ∈ L, pbE y r → r.c < y.c) ∨ (Best L x ∧ ¬ (pbE x r ∧ r.c < x.c)) := by
  constructor
  · rintro ⟨h1, h2⟩
    rw [List.filter_append, List.head?_append] at h2
    cases hh : (L.filter (fun y => decide (y.key = x.key))).head? with
    | some z =>
      rw [hh] at h2
      cases h2
      refine .inr ⟨⟨fun y hy => h1 y (List.mem_append_left _ hy), hh⟩, fun h => ?_⟩
      have := h1 r (List.mem_append_right _ (List.mem_singleton.2 rfl)) (pbE_sy h.1)
      omega
    | none =>
      rw [hh] at h2
      rw [List.head?_eq_none_iff] at hh
      have hne : ∀ y ∈ L, y.key ≠ x.key := fun y hy e => by
        have : y ∈ L.filter (fun y => decide (y.key = x.key)) := List.mem_filter.2 ⟨hy, decide_eq_true e⟩
        rw [hh] at this; cases this
      have h2 : ([r].filter (fun y => decide (y.key = x.key))).head? = some x := h2
      have hxr : x = r := by
        by_cases e : r.key = x.key
        · rw [List.filter_cons_of_pos (by simpa using e)] at h2
          exact (Option.some.inj h2).symm
        · rw [List.filter_cons_of_neg (by simpa using e)] at h2
          cases h2
      refine .inl ⟨hxr, fun y hy he => ?_⟩
      subst hxr
      have h3 := h1 y (List.mem_append_left _ hy) he
      rcases Int.lt_or_eq_of_le h3 with h4 | h4
      · exact h4
      · exact absurd (key_of he h4.symm) (hne y hy)
  · rintro (⟨rfl, h1⟩ | ⟨⟨h1, h2⟩, h3⟩)
    · refine ⟨fun y hy he => ?_, ?_⟩
      · rcases List.mem_append.1 hy with hy | hy
        · have := h1 y hy he; omega
        · rw [List.mem_singleton.1 hy]; exact Int.le_refl _
      · have : L.filter (fun y => decide (y.key = x.key)) = [] := by
          rw [List.filter_eq_nil_iff]
          intro y hy
          rw [decide_eq_true_iff]
          intro e
          obtain ⟨e1, e2⟩ := key_pb e
          have := h1 y hy e1
          omega
        rw [List.filter_append, this]
        simp
    · refine ⟨fun y hy he => ?_, ?_⟩
      · rcases List.mem_append.1 hy with hy | hy
        · exact h1 y hy he
        · rw [List.mem_singleton.1 hy] at he ⊢
          rcases Int.lt_or_le r.c x.c with h | h
          · exact absurd ⟨pbE_sy he, h⟩ h3
          · exact h
      · rw [List.filter_append, List.head?_append, h2]; rfl
theorem best_ex : ∀ (L : List Rt) (y : Rt), y ∈ L → ∃ z, Best L z ∧ pbE z y ∧ z.c ≤ y.c := by
  have key : ∀ (n : Nat) (L : List Rt), L.length = n → ∀ y ∈ L, ∃ z, Best L z ∧ pbE z y ∧ z.c ≤ y.c := by
    intro n
    induction n with
    | zero => intro L hL y hy; rw [List.eq_nil_of_length_eq_zero hL] at hy; cases hy
    | succ n ih =>
      intro L hL y hy
      obtain ⟨M, r, rfl⟩ : ∃ M r, L = M ++ [r] := ⟨L.dropLast, L.getLast (by intro e; rw [e] at hL; cases hL), (List.dropLast_concat_getLast _).symm⟩
      have hM : M.length = n := by rw [List.length_append, List.length_singleton] at hL; omega
      by_cases hall : ∀ z ∈ M, pbE z r → r.c < z.c
      · by_cases hyr : pbE r y
        · refine ⟨r, best_snoc.2 (.inl ⟨rfl, hall⟩), hyr, ?_⟩
          rcases List.mem_append.1 hy with hy | hy
          · have := hall y hy (pbE_sy hyr); omega
          · rw [List.mem_singleton.1 hy]; exact Int.le_refl _
        · have hyM : y ∈ M := by
            rcases List.mem_append.1 hy with hy | hy
            · exact hy
            · rw [List.mem_singleton.1 hy] at hyr; exact absurd ⟨rfl, rfl⟩ hyr
          obtain ⟨z, h1, h2, h3⟩ := ih M hM y hyM
          refine ⟨z, best_snoc.2 (.inr ⟨h1, fun h => hyr ?_⟩), h2, h3⟩
          have := h.1
          unfold pbE at *; omega
      · obtain ⟨w, hw⟩ : ∃ w, w ∈ M ∧ pbE w r ∧ ¬ r.c < w.c := by
          rcases Classical.em (∃ w, w ∈ M ∧ pbE w r ∧ ¬ r.c < w.c) with h | h
          · exact h
          · exact absurd (fun z hz he => Classical.byContradiction fun hc => h ⟨z, hz, he, hc⟩) hall
        obtain ⟨hw1, hw2, hw3⟩ := hw
        have hyc : ∃ u ∈ M, pbE u y ∧ u.c ≤ y.c := by
          rcases List.mem_append.1 hy with hy | hy
          · exact ⟨y, hy, ⟨rfl, rfl⟩, Int.le_refl _⟩
          · rw [List.mem_singleton.1 hy]; exact ⟨w, hw1, hw2, by omega⟩
        obtain ⟨u, hu1, hu2, hu3⟩ := hyc
        obtain ⟨z, h1, h2, h3⟩ := ih M hM u hu1
        refine ⟨z, best_snoc.2 (.inr ⟨h1, fun h => ?_⟩), ⟨h2.1.trans hu2.1, h2.2.trans hu2.2⟩, by omega⟩
        have := h1.le w hw1 ⟨hw2.1.trans h.1.1.symm, hw2.2.trans h.1.2.symm⟩
        omega
  exact fun L y hy => key L.length L rfl y hy
/-- A list of the best ones, in order. -/
structure Told (L M : List Rt) : Prop where
  pw : M.Pairwise pbL
  mem : ∀ x, x ∈ M ↔ Best L x
theorem Told.nil : Told [] [] := ⟨List.Pairwise.nil, fun x => ⟨fun h => (nomatch h), fun h => h.mem⟩⟩
theorem Told.snoc {L M : List Rt} (h : Told L M) (r : Rt) : Told (L ++ [r]) (insT M r) := by
  refine ⟨insT_pw h.pw, fun x => ?_⟩
  rw [insT_mem h.pw, best_snoc, h.mem]
  have : (∀ y ∈ M, pbE y r → r.c < y.c) ↔ (∀ y ∈ L, pbE y r → r.c < y.c) := by
    constructor
    · intro hh y hy he
      obtain ⟨z, h1, h2, h3⟩ := best_ex L y hy
      have := hh z ((h.mem z).2 h1) ⟨h2.1.trans he.1, h2.2.trans he.2⟩
      omega
    · intro hh y hy he
      exact hh y ((h.mem y).1 hy).mem he
  rw [this]
theorem told_ref : ∀ (L : List Rt), Told L (refR L) := by
  have key : ∀ (n : Nat) (L : List Rt), L.length = n → Told L (refR L) := by
    intro n
    induction n with
    | zero => intro L hL; rw [List.eq_nil_of_length_eq_zero hL]; exact Told.nil
    | succ n ih =>
      intro L hL
      obtain ⟨M, r, rfl⟩ : ∃ M r, L = M ++ [r] := ⟨L.dropLast, L.getLast (by intro e; rw [e] at hL; cases hL), (List.dropLast_concat_getLast _).symm⟩
      have hM : M.length = n := by rw [List.length_append, List.length_singleton] at hL; omega
      rw [refR_snoc]
      exact (ih M hM).snoc r
  exact fun L => key L.length L rfl
theorem pw_eq : ∀ {l m : List Rt}, l.Pairwise pbL → m.Pairwise pbL → (∀ x, x ∈ l ↔ x ∈ m) → l = m
  | [], [], _, _, _ => rfl
  | [], y :: m, _, _, h => absurd ((h y).2 (List.mem_cons_self ..)) (fun h => (nomatch h))
  | x :: l, [], _, _, h => absurd ((h x).1 (List.mem_cons_self ..)) (fun h => (nomatch h))
  | x :: l, y :: m, hl, hm, h => by
    rw [List.pairwise_cons] at hl hm
    have hxy : x = y := by
      rcases List.mem_cons.1 ((h x).1 (List.mem_cons_self ..)) with e | h1
      · exact e
      · rcases List.mem_cons.1 ((h y).2 (List.mem_cons_self ..)) with e | h2
        · exact e.symm
        · exact absurd (pbL_tr (hl.1 y h2) (hm.1 x h1)) (pbL_irr x)
    subst hxy
    refine congrArg (x :: ·) (pw_eq hl.2 hm.2 (fun z => ?_))
    have hz := h z
    rw [List.mem_cons, List.mem_cons] at hz
    constructor
    · intro h1
      rcases hz.1 (.inr h1) with rfl | h2
      · exact absurd (hl.1 z h1) (pbL_irr z)
      · exact h2
    · intro h1
      rcases hz.2 (.inr h1) with rfl | h2
      · exact absurd (hm.1 z h1) (pbL_irr z)
      · exact h2
theorem Told.uniq {L M N : List Rt} (h : Told L M) (h' : Told L N) : M = N := pw_eq h.pw h'.pw (fun x => (h.mem x).trans (h'.mem x).symm)
/-! what is left of a sorted list -/
theorem eqRt_iff {x y : Rt} : eqRt x y = true ↔ pbE x y := by
  unfold eqRt pbE
  rw [Bool.and_eq_true, eqB_eq, eqB_eq]
  simp
theorem cpN_snoc {l : List Rt} {i : Nat} {y : Rt} (hy : l[i]? = some y) : cpN l (i + 1) = if i = 0 ∨ (∀ x, l[i - 1]? = some x → ¬ pbE y x) then cpN l i ++ [y] else cpN l i := by
  cases i with
  | zero => rw [if_pos (.inl rfl), cpN_one hy]; rfl
  | succ i =>
    obtain ⟨x, hx⟩ : ∃ x, l[i]? = some x := ⟨_, List.getElem?_eq_getElem (by have := (List.getElem?_eq_some_iff.1 hy).1; omega)⟩
    rw [cpN_eq hx hy]
    by_cases c : pbE y x
    · rw [if_neg (by rw [eqRt_iff.2 c]; decide), if_neg (fun h => by
        rcases h with h | h
        · omega
        · exact h x (by rw [show i + 1 - 1 = i by omega]; exact hx) c)]
    · rw [if_pos (by cases he : eqRt y x with
        | false => rfl
        | true => exact absurd (eqRt_iff.1 he) c), if_pos (.inr (fun z hz => by rw [show i + 1 - 1 = i by omega, hx] at hz; cases hz; exact c))]
theorem srt_le {l : List Rt} (hs : Srt 0 l.length l) {i j : Nat} {x y : Rt} (hij : i ≤ j) (hx : l[i]? = some x) (hy : l[j]? = some y) : ¬ kLt y x := hs.at (Nat.zero_le _) hij (List.getElem?_eq_some_iff.1 hy).1 hx hy
theorem kLe_pb {x y : Rt} (h : ¬ kLt y x) (h' : ¬ pbE y x) : pbL x y := by unfold kLt pbE pbL at *; omega
theorem kLe_c {x y : Rt} (h : ¬ kLt y x) (h' : pbE y x) : x.c ≤ y.c := by unfold kLt pbE at *; omega
/-- What the first i leave: those that are the first of their net. -/
theorem cpN_mem {l : List Rt} (hs : Srt 0 l.length l) : ∀ {i : Nat}, i ≤ l.length → (cpN l i).Pairwise pbL ∧ (∀ x, x ∈ cpN l i ↔ ∃ j : Nat, j < i ∧ l[j]? = some x ∧ ∀ (u : Nat) y, u < j → l[u]? = some y → ¬ pbE y x)
  | 0, _ => ⟨List.Pairwise.nil, fun x => ⟨fun h => (nomatch h), fun ⟨j, h, _⟩ => absurd h (Nat.not_lt_zero _)⟩⟩
  | i + 1, hi => by
    obtain ⟨y, hy⟩ : ∃ y, l[i]? = some y := ⟨_, List.getElem?_eq_getElem (by omega)⟩
    obtain ⟨h1, h2⟩ := cpN_mem hs (i := i) (by omega)
    rw [cpN_snoc hy]
    by_cases c : i = 0 ∨ (∀ x, l[i - 1]? = some x → ¬ pbE y x)
    · rw [if_pos c]
      have hfirst : ∀ (u : Nat) z, u < i → l[u]? = some z → pbL z y := fun u z hu hz => by
        rcases c with c | c
        · omega
        · obtain ⟨x, hx⟩ : ∃ x, l[i - 1]? = some x := ⟨_, List.getElem?_eq_getElem (by omega)⟩
          have a1 := kLe_pb (srt_le hs (show i - 1 ≤ i by omega) hx hy) (c x hx)
          have a2 := srt_le hs (show u ≤ i - 1 by omega) hz hx
          by_cases e : pbE x z
          · exact pbE_L e a1
          · exact pbL_tr (kLe_pb a2 e) a1
      refine ⟨List.pairwise_append.2 ⟨h1, List.pairwise_singleton _ _, fun a ha b hb => ?_⟩, fun x => ?_⟩
      · rw [List.mem_singleton.1 hb]
        obtain ⟨j, hj, hja, _⟩ := (h2 a).1 ha
        exact hfirst j a hj hja
      · rw [List.mem_append, List.mem_singleton, h2]
        constructor
        · rintro (⟨j, q1, q2, q3⟩ | rfl)
          · exact ⟨j, by omega, q2, q3⟩
          · exact ⟨i, by omega, hy, fun u z hu hz e => pbE_no e (hfirst u z hu hz)⟩
        · rintro ⟨j, q1, q2, q3⟩
          rcases Nat.lt_succ_iff_lt_or_eq.1 q1 with q1 | rfl
          · exact .inl ⟨j, q1, q2, q3⟩
          · rw [hy] at q2; cases q2; exact .inr rfl
    · rw [if_neg c]
      refine ⟨h1, fun x => ?_⟩
      rw [h2]
      constructor
      · rintro ⟨j, q1, q2⟩; exact ⟨j, by omega, q2⟩
      · rintro ⟨j, q1, q2, q3⟩
        rcases Nat.lt_succ_iff_lt_or_eq.1 q1 with q1 | rfl
        · exact ⟨j, q1, q2, q3⟩
        · refine absurd (.inr (fun z hz e => ?_)) c
          rw [hy] at q2; cases q2
          by_cases h0 : j = 0
          · exact c (.inl h0)
          · exact q3 (j - 1) z (by omega) hz (pbE_sy e)
theorem first_head {l : List Rt} {x : Rt} : ∀ {j : Nat}, l[j]? = some x → (∀ (u : Nat) y, u < j → l[u]? = some y → ¬ pbE y x) → (l.filter (fun y => decide (y.key = x.key))).head? = some x := by
  induction l with
  | nil => intro j h; cases h
  | cons z l ih =>
    intro j h hn
    cases j with
    | zero =>
      simp only [List.getElem?_cons_zero, Option.some.injEq] at h
      subst h
      rw [List.filter_cons_of_pos (by simp)]
      rfl
    | succ j =>
      have hz := hn 0 z (by omega) rfl
      rw [List.filter_cons_of_neg (by simpa using fun e => hz (key_pb e).1)]
      exact ih (j := j) (by simpa using h) (fun u y hu hy => hn (u + 1) y (by omega) (by simpa using hy))
theorem told_cp {L q : List Rt} (h : Stb L q) (hs : Srt 0 q.length q) : Told L (cpL q) := by
  obtain ⟨h1, h2⟩ := cpN_mem hs (Nat.le_refl _)
  refine ⟨h1, fun x => ?_⟩
  rw [h2]
  constructor
  · rintro ⟨j, q1, q2, q3⟩
    refine ⟨fun y hy he => ?_, by rw [← h x.key]; exact first_head q2 q3⟩
    obtain ⟨u, hu⟩ := List.mem_iff_getElem?.1 (h.mem.2 hy)
    rcases Nat.lt_or_ge u j with c | c
    · exact absurd he (q3 u y c hu)
    · exact kLe_c (srt_le hs c q2 hu) he
  · intro hb
    -- the first of its net in q
    have hx : x ∈ q := h.mem.2 hb.mem
    obtain ⟨i, hi⟩ := List.mem_iff_getElem?.1 hx
    have hex : ∃ j : Nat, ∃ z, q[j]? = some z ∧ pbE z x ∧ ∀ (u : Nat) y, u < j → q[u]? = some y → ¬ pbE y x := by
      have key : ∀ (n i : Nat) (z : Rt), i ≤ n → q[i]? = some z → pbE z x → ∃ j : Nat, ∃ z, q[j]? = some z ∧ pbE z x ∧ ∀ (u : Nat) y, u < j → q[u]? = some y → ¬ pbE y x := by
        intro n
        induction n with
        | zero => intro i z hin hz he; exact ⟨i, z, hz, he, fun u y hu => by omega⟩
        | succ n ih =>
          intro i z hin hz he
          rcases Classical.em (∃ (u : Nat) (y : Rt), u < i ∧ q[u]? = some y ∧ pbE y x) with ⟨u, y, hu, hy, hye⟩ | hno
          · exact ih u y (by omega) hy hye
          · exact ⟨i, z, hz, he, fun u y hu hy hye => hno ⟨u, y, hu, hy, hye⟩⟩
      exact key i i x (Nat.le_refl _) hi ⟨rfl, rfl⟩
    obtain ⟨j, z, hz, hzx, hfirst⟩ := hex
    have hjl := (List.getElem?_eq_some_iff.1 hz).1
    -- it costs as x does, so it is x
    have hzL : z ∈ L := h.mem.1 (List.mem_of_getElem? hz)
    have c1 := hb.le z hzL hzx
    have hji : j ≤ i := by
      rcases Nat.lt_or_ge i j with c | c
      · exact absurd ⟨rfl, rfl⟩ (hfirst i x c hi)
      · exact c
    have c2 := kLe_c (srt_le hs hji hz hi) (pbE_sy hzx)
    have hkey : z.key = x.key := key_of hzx (by omega)
    have hzz : ∀ (u : Nat) y, u < j → q[u]? = some y → ¬ pbE y z := fun u y hu hy he => hfirst u y hu hy ⟨he.1.trans hzx.1, he.2.trans hzx.2⟩
    have h3 := first_head hz hzz
    rw [hkey, h x.key, hb.hd] at h3
    cases h3
    exact ⟨j, hjl, hz, hzz⟩
theorem RtOk.told {L M : List Rt} (h : ∃ q, Seg 0 L.length L q ∧ Srt 0 L.length q ∧ M = cpL q) : Told L M := by
  obtain ⟨q, h1, h2, rfl⟩ := h
  exact told_cp h1.stb (by rw [h1.len]; exact h2)
end Go.Proofs.Ytmocggibcniggaa.Kt
namespace Go.Proofs.Ytmocggibcniggaa.Kt
open Go Kw Go.Proofs
attribute [local irreducible] Kw.GI Kw.GR Kw.FnR Kw.FnX Kw.FnI
set_option maxHeartbeats 16000000
set_option maxRecDepth 100000
/-! ### the reference's routes -/
structure Ent where
  v : Vt
  p : Int
  b : Int
  c : Int
def entS (s : Sn) : Ent := ⟨s.v, s.p, s.b, 0⟩
def entB (s : Sb) : Ent := ⟨⟨1, s.r⟩, s.p, s.b, s.c⟩
def ents (m : Mp) : List Ent := m.sn.map entS ++ m.sb.map entB
def rawE (t : List Nd) (E : List Ent) : List Rt := E.foldl (fun L e => putR t L e.v e.p e.b e.c) []
theorem raw_ents (m : Mp) (t : List Nd) : rawR m t = rawE t (ents m) := by
  unfold rawR rawE ents rawB rawS
  rw [List.foldl_append, List.foldl_map, List.foldl_map]
  rfl
theorem rawE_len (t : List Nd) (E : List Ent) : (rawE t E).length ≤ E.length := by
  have key : ∀ (E : List Ent) (L : List Rt), (E.foldl (fun L e => putR t L e.v e.p e.b e.c) L).length ≤ L.length + E.length := by
    intro E
    induction E with
    | nil => intro L; simp
    | cons e E ih =>
      intro L
      rw [List.foldl_cons]
      have := ih (putR t L e.v e.p e.b e.c)
      have := putR_len t L e.v e.p e.b e.c
      rw [List.length_cons]
      omega
  have := key E []
  simpa [rawE] using this
theorem better17_ok (x y : Rt) (s1 s2 : Bool) (h : s1 = true → s2 = true) : FnR Try.prog 70 [x.av, y.av, Bo s1, Bo s2] (RB (ltB x.c y.c)) := by
  refine fnR_intro (T := TT) (n := 24) Try.func70 rfl rfl rfl (fun w Z => ?_)
  (repeat (first | refine r_end ?_ | (refine r_op ?_; first | refine r_pure hT rfl rfl rfl rfl rfl rfl ?_ | refine r_load hT rfl rfl rfl rfl rfl rfl rfl rfl rfl ?_ | refine r_box rfl rfl rfl rfl rfl rfl rfl rfl rfl ?_) | refine gi_seq ?_ | refine gi_plain ?_))
  refine gi_ne (p := x.c) (q := y.c) rfl (fun c1 => ?_) (fun c1 => ?_)
  · (repeat (first | refine r_end ?_ | (refine r_op ?_; first | refine r_pure hT rfl rfl rfl rfl rfl rfl ?_ | refine r_load hT rfl rfl rfl rfl rfl rfl rfl rfl rfl ?_) | refine gi_seq ?_ | refine gi_plain ?_))
    refine gi_retW hT Try.func70 rfl rfl [] rfl rfl rfl rfl ?_
    exact ⟨rfl, rfl⟩
  · have hf : ltB x.c y.c = false := by rw [ltB_eq, c1]; exact decide_eq_false (by omega)
    (repeat (first | (refine r_op ?_; refine r_pure hT rfl rfl rfl rfl rfl rfl ?_) | refine gi_seq ?_ | refine gi_plain ?_ | refine gi_skip ?_))
    cases s1 with
    | true =>
      rw [h rfl]
      (repeat (first | refine r_end ?_ | (refine r_op ?_; refine r_pure hT rfl rfl rfl rfl rfl rfl ?_)))
      refine gi_retW hT Try.func70 rfl rfl [] rfl rfl rfl rfl ?_
      exact ⟨by rw [hf, notB_eq]; rfl, rfl⟩
    | false =>
      (repeat (first | refine r_end ?_ | (refine r_op ?_; first | refine r_pure hT rfl rfl rfl rfl rfl rfl ?_ | refine r_off rfl rfl rfl rfl rfl ?_)))
      refine gi_retW hT Try.func70 rfl rfl [] rfl rfl rfl rfl ?_
      exact ⟨by rw [hf], rfl⟩
abbrev bRow (b : Bool) : List RV := [.v (.bool b)]
abbrev eBl (l : List Bool) : Option SE := some ⟨4, 1, l.map bRow, false⟩
abbrev eBr (L : List (List RV)) : Option SE := some ⟨4, 1, L, false⟩
abbrev eRr (L : List (List RV)) : Option SE := some ⟨67, 5, L, false⟩
abbrev zRr : List RV := [.v (.int .i64 0), .v (.int .i64 0), .v (.int .i64 0), .v (.int .i64 0), .v (.int .i64 0)]
theorem setR_all : ∀ (vs us pre : List RV), us.length = vs.length → setR (pre ++ us) pre.length vs = pre ++ vs
  | [], us, pre, h => by
    have : us = [] := List.eq_nil_of_length_eq_zero h
    subst this
    rfl
  | v :: vs, [], pre, h => by cases h
  | v :: vs, u :: us, pre, h => by
    unfold setR
    have e : (pre ++ u :: us).set pre.length v = (pre ++ [v]) ++ us := by
      rw [List.set_append_right _ _ (Nat.le_refl _), Nat.sub_self, List.set_cons_zero, List.append_assoc]; rfl
    rw [e]
    have := setR_all vs us (pre ++ [v]) (by simpa using h)
    rw [List.length_append, List.length_singleton] at this
    rw [this, List.append_assoc]
    rfl
theorem sh_any {R : List (List RV)} {z : List RV} {n k : Nat} (hR : ∀ r ∈ R, r.length = n) (hz : z.length = n) (hk : k ≤ R.length) : ∃ r0, ((R ++ [z]).take (k + 1) ++ R.drop k)[k]? = some r0 ∧ ∀ vs : List RV, vs.length = n → setR r0 0 vs = vs := by
  have key : ∀ r0 : List RV, r0.length = n → ∀ vs : List RV, vs.length = n → setR r0 0 vs = vs := fun r0 h vs h' => by
    have := setR_all vs r0 [] (h.trans h'.symm)
    simpa using this
  rw [List.getElem?_append_left (by simp; omega), List.getElem?_take, if_pos (by omega)]
  by_cases h : k < R.length
  · obtain ⟨y, hy⟩ : ∃ y, R[k]? = some y := ⟨_, List.getElem?_eq_getElem h⟩
    exact ⟨y, by rw [List.getElem?_append_left h]; exact hy, key y (hR y (List.mem_of_getElem? hy))⟩
  · have : k = R.length := by omega
    subst this
    exact ⟨z, by rw [List.getElem?_append_right (Nat.le_refl _), Nat.sub_self]; rfl, key z hz⟩
theorem rt_len {M : List Rt} : ∀ r ∈ M.map Rt.row, r.length = 5 := fun r hr => by obtain ⟨x, _, rfl⟩ := List.mem_map.1 hr; rfl
theorem bl_len {M : List Bool} : ∀ r ∈ M.map bRow, r.length = 1 := fun r hr => by obtain ⟨x, _, rfl⟩ := List.mem_map.1 hr; rfl
theorem eBl_ap (a b : List Bool) : eBl (a ++ b) = some (⟨4, 1, a.map bRow ++ b.map bRow, false⟩ : SE) := by rw [eBl, List.map_append]
/-- What the round has found: the list, and whose of Spans they are. -/
structure Rnd (m : Mp) (t : List Nd) (i : Nat) (M : List Rt) (B : List Bool) : Prop where
  eq : M = refR (rawE t ((ents m).take i))
  len : B.length = M.length
  sp : i ≤ m.sn.length → ∀ b ∈ B, b = true
end Go.Proofs.Ytmocggibcniggaa.Kt
namespace Go.Proofs.Ytmocggibcniggaa.Kt
open Go Kw Go.Proofs
attribute [local irreducible] Kw.GI Kw.GR Kw.FnR Kw.FnX Kw.FnI
set_option maxHeartbeats 16000000
set_option maxRecDepth 100000
theorem rRoutes_ok (l : List Ls) (self : Int) (hf : Few l) : FnX Try.prog 31 [avMf (mapL l), I self] [] [] (RV1 (eRt (refR (rawL l self)))) := by
  have hT0 := tre_of hf ⟨1, self⟩
  have htl := tree_lt hf ⟨1, self⟩
  have hvl : (vertsL l).length ≤ 2000 := map_vs hf
  have hsn : (mapL l).sn.length ≤ 2000 := by
    have := flat_len (snF_len l) (vertsL l)
    show ((vertsL l).flatMap (snF l)).length ≤ _
    omega
  have hsb : (mapL l).sb.length ≤ 2000000 := by
    have := flat_len (fun v => sbF_len hf v) (vertsL l)
    show ((vertsL l).flatMap (sbF l)).length ≤ _
    omega
  have htree := rTreeL l ⟨1, self⟩ hf
  show FnX _ _ _ _ _ (RV1 (eRt (refR (rawR (mapL l) (refTree (mapL l) ⟨1, self⟩)))))
  obtain ⟨t, ht⟩ : ∃ t, t = refTree (mapL l) ⟨1, self⟩ := ⟨_, rfl⟩
  rw [← ht] at hT0 htl htree
  rw [← ht]
  generalize mapL l = m at hsn hsb htree
  have hel : (ents m).length = m.sn.length + m.sb.length := by unfold ents; rw [List.length_append, List.length_map, List.length_map]
  refine fnX_intro (T := TT) (n := 235) Try.func31 rfl rfl rfl (fun w X Z Y B => ?_)
  (repeat (first | refine r_end ?_ | (refine r_op ?_; first | refine r_pure hT rfl rfl rfl rfl rfl rfl ?_ | refine r_load hT rfl rfl rfl rfl rfl rfl rfl rfl rfl ?_ | refine r_box rfl rfl rfl rfl rfl rfl rfl rfl rfl ?_) | refine gi_seq ?_ | refine gi_plain ?_))
  refine r_call (htree) rfl rfl rfl rfl rfl rfl rfl rfl Try.func50 rfl rfl rfl pT1 ?_
  rintro r S1 ⟨rfl, rfl⟩
  (repeat (first | refine r_end ?_ | (refine r_op ?_; refine r_pure hT rfl rfl rfl rfl rfl rfl ?_) | refine gi_seq ?_))
  refine gi_freeze 0 (L' := t.map Nd.row) rfl rfl ?_
  refine gi_thaw 5 rfl ?_
  refine gi_weak (F' := [(2, .box 0 0), (5, rsNd t)]) (H' := [hMf m]) (S' := []) ⟨rfl, rfl, trivial⟩ ⟨rfl, trivial⟩ trivial rfl ?_
  (repeat (first | refine r_end ?_ | (refine r_op ?_; refine r_pure hT rfl rfl rfl rfl rfl rfl ?_) | refine gi_seq ?_ | refine gi_plain ?_ | refine gi_block ?_))
  refine gi_adopt (e := 67) (sz := 5) 6 rfl ?_
  refine gi_adopt (e := 4) (sz := 1) 7 rfl ?_
  refine gi_loop (σ := Nat × List Rt × List Bool) (fun s => [(8, I (s.1 : Int)), (2, .box 0 0), (5, rsNd t), (6, .sl 0), (7, .sl 1)]) (fun _ => [hMf m]) (fun s => [eRt s.2.1, eBl s.2.2]) (fun s => s.1 ≤ m.sn.length + m.sb.length ∧ Rnd m t s.1 s.2.1 s.2.2) (fun s => m.sn.length + m.sb.length - s.1) (0, [], []) ⟨Nat.zero_le _, rfl, rfl, fun _ b hb => (nomatch hb)⟩ ⟨rfl, rfl, rfl, rfl, rfl, trivial⟩ ⟨rfl, trivial⟩ ⟨rfl, rfl, trivial⟩ (fun _ => rfl) (fun s hs next => ?_)
  obtain ⟨i, M, B⟩ := s
  obtain ⟨hi, hR⟩ := hs
  simp only at hi hR
  have hMl : M.length ≤ i := by
    have h1 := refR_len (rawE t ((ents m).take i))
    have h2 := rawE_len t ((ents m).take i)
    rw [List.length_take] at h2
    rw [hR.eq]
    omega
  have hBl := hR.len
  have hq : wr .i64 ((((m.sn.map Sn.row).length : Nat) : Int) + (((m.sb.map Sb.row).length : Nat) : Int)) = ((m.sn.length + m.sb.length : Nat) : Int) := by
    rw [List.length_map, List.length_map, wadd rfl (by omega)]
  (repeat (first | refine r_end ?_ | (refine r_op ?_; first | refine r_pure hT rfl rfl rfl rfl rfl rfl ?_ | refine r_load hT rfl rfl rfl rfl rfl rfl rfl rfl rfl ?_) | refine gi_seq ?_ | refine gi_plain ?_))
  refine gi_lt (p := (i : Int)) (q := wr .i64 ((((m.sn.map Sn.row).length : Nat) : Int) + (((m.sb.map Sb.row).length : Nat) : Int))) rfl (fun h3 => ?_) (fun h3 => ?_)
  · rw [hq] at h3
    have hil : i < m.sn.length + m.sb.length := by omega
    obtain ⟨e, he⟩ : ∃ e, (ents m)[i]? = some e := ⟨_, List.getElem?_eq_getElem (by omega)⟩
    have hraw : rawE t ((ents m).take (i + 1)) = putR t (rawE t ((ents m).take i)) e.v e.p e.b e.c := foldl_tk he
    have on : ∀ M' B', Rnd m t (i + 1) M' B' → ∀ F1 H1 S1, SubF [(8, I (wr .i64 ((i : Int) + 1))), (2, .box 0 0), (5, rsNd t), (6, .sl 0), (7, .sl 1)] F1 → SubH [hMf m] H1 → SubS [eRt M', eBl B'] S1 → GI _ _ F1 H1 S1 := fun M' B' hM' F1 H1 S1 hF hH hS => by
      refine next (i + 1, M', B') F1 H1 S1 ⟨by simp only; omega, hM'⟩ (by simp only; omega) ?_ hH hS
      rw [wadd1 (by omega)] at hF
      exact hF
    clear next
    (repeat (first | refine r_end ?_ | (refine r_op ?_; first | refine r_pure hT rfl rfl rfl rfl rfl rfl ?_ | refine r_store hT rfl rfl rfl rfl rfl rfl rfl rfl rfl rfl ?_ | refine r_alloc hT rfl rfl rfl rfl rfl rfl rfl rfl rfl ?_) | refine gi_seq ?_ | refine gi_plain_ne 8 rfl ?_ | refine gi_skip ?_ | refine gi_block ?_))
    apply gi_cut (σ := Unit) (fun _ => [(8, I (i : Int)), (9, .box 1 0), (10, .box 2 0), (2, .box 0 0), (5, rsNd t), (6, .sl 0), (7, .sl 1)]) (fun _ => [hMf m, hRt ⟨e.p, e.b, e.c, 0, 0⟩, hV e.v]) (fun _ => [eRt M, eBl B]) (fun _ => True) (fun _ => rfl)
    case first =>
      intro fin
      (repeat (first | refine r_end ?_ | (refine r_op ?_; first | refine r_pure hT rfl rfl rfl rfl rfl rfl ?_ | refine r_load hT rfl rfl rfl rfl rfl rfl rfl rfl rfl ?_) | refine gi_plain ?_))
      refine gi_lt (p := (i : Int)) (q := ((m.sn.map Sn.row).length : Int)) rfl (fun h4 => ?_) (fun h4 => ?_)
      · rw [List.length_map] at h4
        obtain ⟨s, hs⟩ : ∃ s, m.sn[i]? = some s := ⟨_, List.getElem?_eq_getElem (by omega)⟩
        have hes : e = entS s := by
          unfold ents at he
          rw [List.getElem?_append_left (by rw [List.length_map]; omega), List.getElem?_map, hs] at he
          exact (Option.some.inj he).symm
        subst hes
        (repeat (first | (refine r_op ?_; first | refine r_pure hT rfl rfl rfl rfl rfl rfl ?_ | refine r_load hT rfl rfl rfl rfl rfl rfl rfl rfl rfl ?_) | refine gi_seq ?_ | refine gi_plain ?_))
        refine r_thaw 40 rfl ?_
        refine r_idx (row := s.row) hT rfl rfl rfl rfl rfl rfl rfl rfl rfl rfl rfl rfl (nn i) (by simp [hs]) ?_
        (repeat (first | refine r_end ?_ | (refine r_op ?_; first | refine r_pure hT rfl rfl rfl rfl rfl rfl ?_ | refine r_load hT rfl rfl rfl rfl rfl rfl rfl rfl rfl ?_ | refine r_store hT rfl rfl rfl rfl rfl rfl rfl rfl rfl rfl ?_) | refine gi_seq ?_ | refine gi_plain ?_))
        refine r_thaw 47 rfl ?_
        refine r_idx (row := s.row) hT rfl rfl rfl rfl rfl rfl rfl rfl rfl rfl rfl rfl (nn i) (by simp [hs]) ?_
        (repeat (first | refine r_end ?_ | (refine r_op ?_; first | refine r_pure hT rfl rfl rfl rfl rfl rfl ?_ | refine r_load hT rfl rfl rfl rfl rfl rfl rfl rfl rfl ?_ | refine r_store hT rfl rfl rfl rfl rfl rfl rfl rfl rfl rfl ?_) | refine gi_plain ?_))
        refine r_thaw 54 rfl ?_
        refine r_idx (row := s.row) hT rfl rfl rfl rfl rfl rfl rfl rfl rfl rfl rfl rfl (nn i) (by simp [hs]) ?_
        (repeat (first | refine r_end ?_ | (refine r_op ?_; first | refine r_pure hT rfl rfl rfl rfl rfl rfl ?_ | refine r_load hT rfl rfl rfl rfl rfl rfl rfl rfl rfl ?_ | refine r_store hT rfl rfl rfl rfl rfl rfl rfl rfl rfl rfl ?_) | refine gi_seq ?_))
        exact fin () _ _ _ trivial ⟨rfl, rfl, rfl, rfl, rfl, rfl, rfl, trivial⟩ ⟨rfl, rfl, rfl, trivial⟩ ⟨rfl, rfl, trivial⟩
      · rw [List.length_map] at h4
        obtain ⟨k, rfl⟩ : ∃ k, i = m.sn.length + k := ⟨i - m.sn.length, by omega⟩
        obtain ⟨s, hs⟩ : ∃ s, m.sb[k]? = some s := ⟨_, List.getElem?_eq_getElem (by omega)⟩
        have hes : e = entB s := by
          unfold ents at he
          rw [List.getElem?_append_right (by rw [List.length_map]; omega), List.length_map, show m.sn.length + k - m.sn.length = k by omega, List.getElem?_map, hs] at he
          exact (Option.some.inj he).symm
        subst hes
        (repeat (first | (refine r_op ?_; first | refine r_pure hT rfl rfl rfl rfl rfl rfl ?_ | refine r_load hT rfl rfl rfl rfl rfl rfl rfl rfl rfl ?_) | refine gi_seq ?_ | refine gi_plain ?_))
        refine r_thaw 60 rfl ?_
        refine r_turn (d := 65) (y := I (k : Int)) rfl (by rw [List.length_map, wsub rfl (by omega)]) ?_
        refine r_idx (row := s.row) hT rfl rfl rfl rfl rfl rfl rfl rfl rfl rfl rfl rfl (nn k) (by simp [hs]) ?_
        (repeat (first | refine r_end ?_ | (refine r_op ?_; first | refine r_pure hT rfl rfl rfl rfl rfl rfl ?_ | refine r_load hT rfl rfl rfl rfl rfl rfl rfl rfl rfl ?_ | refine r_store hT rfl rfl rfl rfl rfl rfl rfl rfl rfl rfl ?_ | refine r_alloc hT rfl rfl rfl rfl rfl rfl rfl rfl rfl ?_) | refine gi_seq ?_ | refine gi_plain_ne 17 rfl ?_))
        exact fin () _ _ _ trivial ⟨rfl, rfl, rfl, rfl, rfl, rfl, rfl, trivial⟩ ⟨rfl, rfl, rfl, trivial⟩ ⟨rfl, rfl, trivial⟩
    case after =>
    intro _ _
    (repeat (first | (refine r_op ?_; first | refine r_pure hT rfl rfl rfl rfl rfl rfl ?_ | refine r_load hT rfl rfl rfl rfl rfl rfl rfl rfl rfl ?_) | refine gi_plain ?_))
    refine r_call (Place_ok t e.v htl) rfl rfl rfl rfl rfl rfl rfl rfl Try.func38 rfl rfl rfl pI ?_
    rintro r S1 ⟨rfl, rfl⟩
    (repeat (first | refine r_end ?_ | (refine r_op ?_; refine r_pure hT rfl rfl rfl rfl rfl rfl ?_) | refine gi_seq ?_ | refine gi_plain ?_))
    refine gi_lt (p := placeI (placeL t e.v)) (q := 0) rfl (fun c1 => ?_) (fun c1 => ?_)
    · have hn : placeL t e.v = none := by
        cases hp : placeL t e.v with
        | none => rfl
        | some i => rw [hp] at c1; have c1 : (i : Int) < 0 := c1; omega
      have hsame : rawE t ((ents m).take (i + 1)) = rawE t ((ents m).take i) := by rw [hraw]; unfold putR; rw [hn]
      (repeat (first | refine r_end ?_ | (refine r_op ?_; refine r_pure hT rfl rfl rfl rfl rfl rfl ?_) | refine gi_plain ?_ | refine gi_exit rfl ?_))
      exact on M B ⟨by rw [hsame]; exact hR.eq, hR.len, fun h => hR.sp (by omega)⟩ _ _ _ ⟨rfl, rfl, rfl, rfl, rfl, trivial⟩ ⟨rfl, trivial⟩ ⟨rfl, rfl, trivial⟩
    obtain ⟨j, hj⟩ : ∃ j, placeL t e.v = some j := by
      cases hp : placeL t e.v with
      | none => rw [hp] at c1; exact absurd (show (-1 : Int) < 0 by decide) c1
      | some i => exact ⟨i, rfl⟩
    have hjl := placeL_lt hj
    obtain ⟨n, hn⟩ : ∃ n, t[j]? = some n := ⟨_, List.getElem?_eq_getElem hjl⟩
    have hgd : t.getD j zNd = n := by rw [List.getD_eq_getElem?_getD, hn]; rfl
    have hpi : placeI (placeL t e.v) = (j : Int) := by rw [hj]; rfl
    obtain ⟨x, hx⟩ : ∃ x : Rt, x = ⟨e.p, e.b, wr .i64 (e.c + n.c), (hopF t j).1, (hopF t j).2⟩ := ⟨_, rfl⟩
    have hput : rawE t ((ents m).take (i + 1)) = rawE t ((ents m).take i) ++ [x] := by
      rw [hraw]
      unfold putR
      rw [hj]
      simp only
      rw [hgd, hx, Int.add_comm]
    have hins : refR (rawE t ((ents m).take (i + 1))) = insT M x := by rw [hput, refR_snoc, ← hR.eq]
    rw [hpi]
    (repeat (first | refine gi_seq ?_ | refine gi_skip ?_))
    refine gi_drawM [9] [(0, .p), (2, .p), (3, .p), (4, .p), (5, .p), (1, .t), (6, .t), (7, .p), (8, .p), (9, .l)] [0, 1, 0, 0, 12, 16, 32, 66, 255, 511] [0, 1, 0, 0, 12, 16, 32, 66, 0, 384] Kt.hm rfl (by kernel_rfl) (fun w1 K => ?_)
    (repeat ((refine r_op ?_; refine r_pure hT rfl rfl rfl rfl rfl rfl ?_)))
    refine r_idx (row := n.row) hT rfl rfl rfl rfl rfl rfl rfl rfl rfl rfl rfl rfl (nn j) (by simp [hn]) ?_
    (repeat (first | refine r_end ?_ | (refine r_op ?_; first | refine r_pure hT rfl rfl rfl rfl rfl rfl ?_ | refine r_load hT rfl rfl rfl rfl rfl rfl rfl rfl rfl ?_ | refine r_store hT rfl rfl rfl rfl rfl rfl rfl rfl rfl rfl ?_) | refine gi_seq ?_ | refine gi_plain ?_))
    refine r_call (rhop_ok t j hT0 hjl htl) rfl rfl rfl rfl rfl rfl rfl rfl Try.func69 rfl rfl rfl pHop ?_
    rintro r S1 ⟨rfl, rfl⟩
    (repeat (first | refine r_end ?_ | (refine r_op ?_; first | refine r_pure hT rfl rfl rfl rfl rfl rfl ?_ | refine r_store hT rfl rfl rfl rfl rfl rfl rfl rfl rfl rfl ?_) | refine gi_seq ?_ | refine gi_plain_ne 23 rfl ?_))
    refine gi_weak (F' := [(8, I (i : Int)), (9, .box 1 0), (2, .box 0 0), (5, rsNd t), (6, .sl 0), (7, .sl 1)]) (H' := [hMf m, hRt x]) (S' := [eRt M, eBl B]) ⟨rfl, rfl, rfl, rfl, rfl, rfl, trivial⟩ ⟨rfl, by rw [hx]; rfl, trivial⟩ ⟨rfl, rfl, trivial⟩ rfl ?_
    clear hx
    (repeat (first | refine r_end ?_ | (refine r_op ?_; refine r_pure hT rfl rfl rfl rfl rfl rfl ?_) | refine gi_seq ?_ | refine gi_plain ?_ | refine gi_block ?_))
    apply gi_cut (σ := Nat) (fun a => [(15, I (a : Int)), (8, I (i : Int)), (9, .box 1 0), (2, .box 0 0), (5, rsNd t), (6, .sl 0), (7, .sl 1)]) (fun _ => [hMf m, hRt x]) (fun _ => [eRt M, eBl B]) (fun a => a ≤ M.length ∧ (∀ (u : Nat) y, u < a → M[u]? = some y → pbL y x) ∧ ∀ y, M[a]? = some y → ¬ pbL y x) (fun _ => rfl)
    case first =>
      intro fin
      refine gi_loop (σ := Nat) (fun a => [(15, I (a : Int)), (8, I (i : Int)), (9, .box 1 0), (2, .box 0 0), (5, rsNd t), (6, .sl 0), (7, .sl 1)]) (fun _ => [hMf m, hRt x]) (fun _ => [eRt M, eBl B]) (fun a => a ≤ M.length ∧ ∀ (u : Nat) y, u < a → M[u]? = some y → pbL y x) (fun a => M.length - a) 0 ⟨Nat.zero_le _, fun u y h => absurd h (Nat.not_lt_zero _)⟩ ⟨rfl, rfl, rfl, rfl, rfl, rfl, rfl, trivial⟩ ⟨rfl, rfl, trivial⟩ ⟨rfl, rfl, trivial⟩ (fun _ => rfl) (fun a ha next => ?_)
      obtain ⟨hal, hlt⟩ := ha
      (repeat (refine gi_seq ?_))
      refine gi_drawM [] [(0, .p), (1, .p), (2, .p), (3, .p), (4, .p), (5, .p), (6, .p), (7, .p), (8, .p), (10, .p), (9, .t), (11, .t), (12, .p), (13, .p), (14, .p), (15, .p), (16, .p), (17, .p), (19, .p), (18, .t), (20, .t), (21, .p), (22, .p), (23, .p), (24, .p), (25, .p), (26, .p), (28, .p), (27, .t), (29, .t), (30, .p), (31, .p), (32, .p), (33, .p)] [0, 0, 2, 5, 8, 16, 16, 112, 144, 272, 16, 1040, 2576, 4112, 8192, 8192, 57344, 73728, 139264, 8192, 532480, 1318912, 2105344, 4194304, 4194304, 29360128, 37748736, 71303168, 4194304, 272629760, 675282944, 1077944320, 2147491856, 4294967312] [0, 0, 2, 5, 8, 16, 16, 112, 144, 272, 16, 1040, 2576, 4112, 8192, 8192, 57344, 73728, 139264, 8192, 532480, 1318912, 2105344, 4194304, 4194304, 29360128, 37748736, 71303168, 4194304, 272629760, 675282944, 1077944320, 2147491856, 4294967312] Kt.hm rfl (by kernel_rfl) (fun w1 K => ?_)
      (repeat ((refine r_op ?_; refine r_pure hT rfl rfl rfl rfl rfl rfl ?_)))
      refine r_case (d := 108) rfl (fun c2 => ?_) (fun c2 => ?_)
      · rw [ltB_eq, List.length_map] at c2
        have hao : a < M.length := by have := of_decide_eq_true c2; omega
        obtain ⟨y, hy⟩ : ∃ y, M[a]? = some y := ⟨_, List.getElem?_eq_getElem hao⟩
        have more : pbL y x → ∀ F1 H1 S1, SubF [(15, I (wr .i64 ((a : Int) + 1))), (8, I (i : Int)), (9, .box 1 0), (2, .box 0 0), (5, rsNd t), (6, .sl 0), (7, .sl 1)] F1 → SubH [hMf m, hRt x] H1 → SubS [eRt M, eBl B] S1 → GI _ _ F1 H1 S1 := fun hb F1 H1 S1 hF hH hS => by
          refine next (a + 1) F1 H1 S1 ⟨hao, fun u z hu hz => ?_⟩ (by omega) ?_ hH hS
          · rcases Nat.lt_succ_iff_lt_or_eq.1 hu with hu | rfl
            · exact hlt u z hu hz
            · rw [hy] at hz; cases hz; exact hb
          · rw [wadd1 (by omega)] at hF
            exact hF
        clear next
        have hyr := row_at hy
        (repeat ((refine r_op ?_; refine r_pure hT rfl rfl rfl rfl rfl rfl ?_)))
        refine r_idxS hT rfl rfl rfl rfl rfl rfl rfl rfl rfl rfl rfl rfl rfl (nn a) (row_lt hao) ?_
        (repeat ((refine r_op ?_; refine r_pure hT rfl rfl rfl rfl rfl rfl ?_)))
        refine r_loadS (row := y.row) hT rfl rfl rfl rfl rfl rfl rfl rfl hyr rfl rfl rfl ?_
        (repeat ((refine r_op ?_; first | refine r_pure hT rfl rfl rfl rfl rfl rfl ?_ | refine r_load hT rfl rfl rfl rfl rfl rfl rfl rfl rfl ?_)))
        refine r_case (d := 117) rfl (fun c3 => ?_) (fun c3 => ?_)
        · rw [ltB_eq] at c3
          have c3 : y.p < x.p := of_decide_eq_true c3
          (repeat (first | refine r_end ?_ | (refine r_op ?_; first | refine r_pure hT rfl rfl rfl rfl rfl rfl ?_ | refine r_off rfl rfl rfl rfl rfl ?_) | refine gi_plain ?_ | refine gi_skip ?_ | refine gi_block ?_ | refine gi_inBlock ?_ | (refine gi_cnd ?_; first | refine gi_true rfl ?_ | refine gi_false rfl ?_)))
          exact more (.inl c3) _ _ _ ⟨rfl, rfl, rfl, rfl, rfl, rfl, rfl, trivial⟩ ⟨rfl, rfl, trivial⟩ ⟨rfl, rfl, trivial⟩
        · rw [ltB_eq] at c3
          have c3 : ¬ y.p < x.p := of_decide_eq_false c3
          (repeat ((refine r_op ?_; refine r_pure hT rfl rfl rfl rfl rfl rfl ?_)))
          refine r_idxS hT rfl rfl rfl rfl rfl rfl rfl rfl rfl rfl rfl rfl rfl (nn a) (row_lt hao) ?_
          (repeat ((refine r_op ?_; refine r_pure hT rfl rfl rfl rfl rfl rfl ?_)))
          refine r_loadS (row := y.row) hT rfl rfl rfl rfl rfl rfl rfl rfl hyr rfl rfl rfl ?_
          (repeat ((refine r_op ?_; first | refine r_pure hT rfl rfl rfl rfl rfl rfl ?_ | refine r_load hT rfl rfl rfl rfl rfl rfl rfl rfl rfl ?_)))
          refine r_case (d := 126) rfl (fun c4 => ?_) (fun c4 => ?_)
          · rw [eqB_eq] at c4
            have c4 : y.p = x.p := of_decide_eq_true c4
            (repeat ((refine r_op ?_; refine r_pure hT rfl rfl rfl rfl rfl rfl ?_)))
            refine r_idxS hT rfl rfl rfl rfl rfl rfl rfl rfl rfl rfl rfl rfl rfl (nn a) (row_lt hao) ?_
            (repeat ((refine r_op ?_; refine r_pure hT rfl rfl rfl rfl rfl rfl ?_)))
            refine r_loadS (row := y.row) hT rfl rfl rfl rfl rfl rfl rfl rfl hyr rfl rfl rfl ?_
            (repeat (first | refine r_end ?_ | (refine r_op ?_; first | refine r_pure hT rfl rfl rfl rfl rfl rfl ?_ | refine r_load hT rfl rfl rfl rfl rfl rfl rfl rfl rfl ?_)))
            refine gi_lt (p := y.b) (q := x.b) rfl (fun c5 => ?_) (fun c5 => ?_)
            · (repeat (first | refine r_end ?_ | (refine r_op ?_; refine r_pure hT rfl rfl rfl rfl rfl rfl ?_) | refine gi_plain ?_ | refine gi_skip ?_ | refine gi_block ?_ | refine gi_inBlock ?_))
              exact more (.inr ⟨c4, c5⟩) _ _ _ ⟨rfl, rfl, rfl, rfl, rfl, rfl, rfl, trivial⟩ ⟨rfl, rfl, trivial⟩ ⟨rfl, rfl, trivial⟩
            · (repeat (first | refine gi_seq ?_ | refine gi_exit rfl ?_))
              exact fin a _ _ _ ⟨hal, hlt, fun z hz h => by rw [hy] at hz; cases hz; unfold pbL at h; omega⟩ ⟨rfl, rfl, rfl, rfl, rfl, rfl, rfl, trivial⟩ ⟨rfl, rfl, trivial⟩ ⟨rfl, rfl, trivial⟩
          · rw [eqB_eq] at c4
            have c4 : ¬ y.p = x.p := of_decide_eq_false c4
            (repeat (first | refine r_end ?_ | (refine r_op ?_; first | refine r_pure hT rfl rfl rfl rfl rfl rfl ?_ | refine r_off rfl rfl rfl rfl rfl ?_) | refine gi_seq ?_ | refine gi_exit rfl ?_ | (refine gi_cnd ?_; first | refine gi_true rfl ?_ | refine gi_false rfl ?_)))
            exact fin a _ _ _ ⟨hal, hlt, fun z hz h => by rw [hy] at hz; cases hz; unfold pbL at h; omega⟩ ⟨rfl, rfl, rfl, rfl, rfl, rfl, rfl, trivial⟩ ⟨rfl, rfl, trivial⟩ ⟨rfl, rfl, trivial⟩
      · rw [ltB_eq, List.length_map] at c2
        have hao : ¬ a < M.length := by have := of_decide_eq_false c2; omega
        (repeat (first | refine r_end ?_ | (refine r_op ?_; first | refine r_pure hT rfl rfl rfl rfl rfl rfl ?_ | refine r_off rfl rfl rfl rfl rfl ?_) | refine gi_seq ?_ | refine gi_exit rfl ?_ | (refine gi_cnd ?_; first | refine gi_true rfl ?_ | refine gi_false rfl ?_)))
        exact fin a _ _ _ ⟨hal, hlt, fun z hz => by have := (List.getElem?_eq_some_iff.1 hz).1; omega⟩ ⟨rfl, rfl, rfl, rfl, rfl, rfl, rfl, trivial⟩ ⟨rfl, rfl, trivial⟩ ⟨rfl, rfl, trivial⟩
    case after =>
    rintro a ⟨hal, hlt, hge⟩
    have hat := insT_at hal hlt hge
    rw [← hins] at hat
    apply gi_cut (σ := Unit) (fun _ => [(15, I (a : Int)), (8, I (i : Int)), (9, .box 1 0), (2, .box 0 0), (5, rsNd t), (6, .sl 0), (7, .sl 1)]) (fun _ => [hMf m, hRt x]) (fun _ => [eRt M, eBl B]) (fun _ => ∀ y, M[a]? = some y → ¬ pbE y x) (fun _ => rfl)
    case first =>
      intro fin
      skip
      refine gi_drawM [] [(0, .p), (1, .p), (2, .p), (3, .p), (4, .p), (5, .p), (6, .p), (7, .p), (8, .p), (10, .p), (9, .t), (11, .t), (12, .p), (13, .p), (14, .p), (15, .p), (16, .p), (17, .p), (18, .p), (20, .p), (19, .t), (21, .t), (22, .p), (23, .p)] [0, 0, 2, 5, 8, 16, 16, 112, 144, 272, 16, 1040, 2576, 4112, 8208, 16384, 16384, 114688, 147456, 278528, 16384, 1064960, 2637824, 4210688] [0, 0, 2, 5, 8, 16, 16, 112, 144, 272, 16, 1040, 2576, 4112, 8192, 16384, 16384, 114688, 147456, 278528, 16384, 1064960, 2637824, 4210688] Kt.hm rfl (by kernel_rfl) (fun w1 K => ?_)
      (repeat ((refine r_op ?_; refine r_pure hT rfl rfl rfl rfl rfl rfl ?_)))
      refine r_case (d := 144) rfl (fun c2 => ?_) (fun c2 => ?_)
      · rw [ltB_eq, List.length_map] at c2
        have hao : a < M.length := by have := of_decide_eq_true c2; omega
        obtain ⟨y, hy⟩ : ∃ y, M[a]? = some y := ⟨_, List.getElem?_eq_getElem hao⟩
        have hyr := row_at hy
        rw [hy] at hat
        simp only at hat
        (repeat ((refine r_op ?_; refine r_pure hT rfl rfl rfl rfl rfl rfl ?_)))
        refine r_idxS hT rfl rfl rfl rfl rfl rfl rfl rfl rfl rfl rfl rfl rfl (nn a) (row_lt hao) ?_
        (repeat ((refine r_op ?_; refine r_pure hT rfl rfl rfl rfl rfl rfl ?_)))
        refine r_loadS (row := y.row) hT rfl rfl rfl rfl rfl rfl rfl rfl hyr rfl rfl rfl ?_
        (repeat ((refine r_op ?_; first | refine r_pure hT rfl rfl rfl rfl rfl rfl ?_ | refine r_load hT rfl rfl rfl rfl rfl rfl rfl rfl rfl ?_)))
        refine r_case (d := 154) rfl (fun c3 => ?_) (fun c3 => ?_)
        · rw [eqB_eq] at c3
          have c3 : y.p = x.p := of_decide_eq_true c3
          (repeat ((refine r_op ?_; refine r_pure hT rfl rfl rfl rfl rfl rfl ?_)))
          refine r_idxS hT rfl rfl rfl rfl rfl rfl rfl rfl rfl rfl rfl rfl rfl (nn a) (row_lt hao) ?_
          (repeat ((refine r_op ?_; refine r_pure hT rfl rfl rfl rfl rfl rfl ?_)))
          refine r_loadS (row := y.row) hT rfl rfl rfl rfl rfl rfl rfl rfl hyr rfl rfl rfl ?_
          (repeat (first | refine r_end ?_ | (refine r_op ?_; first | refine r_pure hT rfl rfl rfl rfl rfl rfl ?_ | refine r_load hT rfl rfl rfl rfl rfl rfl rfl rfl rfl ?_)))
          refine gi_eq (p := y.b) (q := x.b) rfl (fun c4 => ?_) (fun c4 => ?_)
          · rw [if_pos (show pbE y x from ⟨c3, c4⟩)] at hat
            obtain ⟨f, hf⟩ : ∃ f, B[a]? = some f := ⟨_, List.getElem?_eq_getElem (by omega)⟩
            have hfr : (B.map bRow)[((a : Nat) : Int).toNat]? = some (bRow f) := by rw [Int.toNat_natCast, List.getElem?_map, hf]; rfl
            have hal2 : ((a : Nat) : Int).toNat < (B.map bRow).length := by rw [Int.toNat_natCast, List.length_map]; omega
            (repeat (refine gi_seq ?_))
            refine gi_drawM [] [(1, .p), (2, .p), (3, .p), (5, .p), (6, .p), (10, .p), (11, .p), (12, .p), (0, .t), (4, .t), (7, .t), (8, .p), (9, .p), (13, .t), (14, .o)] [0, 0, 0, 6, 8, 0, 0, 64, 128, 288, 0, 0, 3072, 4096, 8721] [0, 0, 0, 6, 8, 0, 0, 64, 128, 288, 0, 0, 3072, 4096, 8721] Kt.hm rfl (by kernel_rfl) (fun w1 K => ?_)
            (repeat ((refine r_op ?_; refine r_pure hT rfl rfl rfl rfl rfl rfl ?_)))
            refine r_idxS hT rfl rfl rfl rfl rfl rfl rfl rfl rfl rfl rfl rfl rfl (nn a) (row_lt hao) ?_
            (repeat ((refine r_op ?_; refine r_pure hT rfl rfl rfl rfl rfl rfl ?_)))
            refine r_idxS hT rfl rfl rfl rfl rfl rfl rfl rfl rfl rfl rfl rfl rfl (nn a) hal2 ?_
            (repeat ((refine r_op ?_; refine r_load hT rfl rfl rfl rfl rfl rfl rfl rfl rfl ?_)))
            refine r_loadS (row := y.row) hT rfl rfl rfl rfl rfl rfl rfl rfl hyr rfl rfl rfl ?_
            (repeat ((refine r_op ?_; first | refine r_pure hT rfl rfl rfl rfl rfl rfl ?_ | refine r_load hT rfl rfl rfl rfl rfl rfl rfl rfl rfl ?_)))
            refine r_loadS (row := bRow f) hT rfl rfl rfl rfl rfl rfl rfl rfl hfr rfl rfl rfl ?_
            skip
            refine r_call (better17_ok x y (ltB (i : Int) ((m.sn.map Sn.row).length : Int)) f (fun h => hR.sp (by rw [ltB_eq, List.length_map] at h; have := of_decide_eq_true h; omega) f (List.mem_of_getElem? hf))) rfl rfl rfl rfl rfl rfl rfl rfl Try.func70 rfl rfl rfl pB ?_
            rintro r S1 ⟨rfl, rfl⟩
            (repeat (refine r_end ?_))
            refine gi_lt (p := x.c) (q := y.c) rfl (fun c5 => ?_) (fun c5 => ?_)
            · rw [if_pos c5] at hat
              (repeat (first | (refine r_op ?_; first | refine r_pure hT rfl rfl rfl rfl rfl rfl ?_ | refine r_load hT rfl rfl rfl rfl rfl rfl rfl rfl rfl ?_) | refine gi_seq ?_ | refine gi_plain ?_))
              refine r_idxS hT rfl rfl rfl rfl rfl rfl rfl rfl rfl rfl rfl rfl rfl (nn a) (row_lt hao) ?_
              skip
              refine r_storeS (row := y.row) hT rfl rfl rfl rfl rfl rfl rfl rfl rfl rfl rfl rfl rfl hyr ?_
              (repeat (first | refine r_end ?_ | (refine r_op ?_; first | refine r_pure hT rfl rfl rfl rfl rfl rfl ?_ | refine r_load hT rfl rfl rfl rfl rfl rfl rfl rfl rfl ?_) | refine gi_plain ?_))
              refine r_idxS hT rfl rfl rfl rfl rfl rfl rfl rfl rfl rfl rfl rfl rfl (nn a) hal2 ?_
              skip
              refine r_storeS (row := bRow f) hT rfl rfl rfl rfl rfl rfl rfl rfl rfl rfl rfl rfl rfl hfr ?_
              (repeat (first | refine r_end ?_ | (refine r_op ?_; refine r_pure hT rfl rfl rfl rfl rfl rfl ?_) | refine gi_plain ?_ | refine gi_exit rfl ?_))
              refine on (M.set a x) (B.set a (ltB (i : Int) ((m.sn.map Sn.row).length : Int))) ⟨hat.symm, by rw [List.length_set, List.length_set]; exact hBl, fun h b hb => ?_⟩ _ _ _ ⟨rfl, rfl, rfl, rfl, rfl, trivial⟩ ⟨rfl, trivial⟩ ⟨?_, ?_, trivial⟩
              · rcases List.mem_or_eq_of_mem_set hb with hb | hb
                · exact hR.sp (by omega) b hb
                · rw [hb, ltB_eq, List.length_map]; exact decide_eq_true (by omega)
              · refine congrArg (fun L => some (⟨67, 5, L, false⟩ : SE)) ?_
                show (M.set a x).map Rt.row = List.set (M.map Rt.row) ((a : Nat) : Int).toNat x.row
                rw [Int.toNat_natCast, set_row]
              · refine congrArg (fun L => some (⟨4, 1, L, false⟩ : SE)) ?_
                show (B.set a _).map bRow = List.set (B.map bRow) ((a : Nat) : Int).toNat (bRow _)
                rw [Int.toNat_natCast, List.map_set]
            · rw [if_neg c5] at hat
              (repeat (first | refine r_end ?_ | (refine r_op ?_; refine r_pure hT rfl rfl rfl rfl rfl rfl ?_) | refine gi_plain ?_ | refine gi_skip ?_ | refine gi_exit rfl ?_))
              exact on M B ⟨hat.symm, hBl, fun h => hR.sp (by omega)⟩ _ _ _ ⟨rfl, rfl, rfl, rfl, rfl, trivial⟩ ⟨rfl, trivial⟩ ⟨rfl, rfl, trivial⟩
          · (repeat (first | refine gi_seq ?_ | refine gi_skip ?_))
            exact fin () _ _ _ (fun z hz h => by rw [hy] at hz; cases hz; exact c4 h.2) ⟨rfl, rfl, rfl, rfl, rfl, rfl, rfl, trivial⟩ ⟨rfl, rfl, trivial⟩ ⟨rfl, rfl, trivial⟩
        · rw [eqB_eq] at c3
          have c3 : ¬ y.p = x.p := of_decide_eq_false c3
          (repeat (first | refine r_end ?_ | (refine r_op ?_; first | refine r_pure hT rfl rfl rfl rfl rfl rfl ?_ | refine r_off rfl rfl rfl rfl rfl ?_) | refine gi_seq ?_ | refine gi_skip ?_ | (refine gi_cnd ?_; first | refine gi_true rfl ?_ | refine gi_false rfl ?_)))
          exact fin () _ _ _ (fun z hz h => by rw [hy] at hz; cases hz; exact c3 h.1) ⟨rfl, rfl, rfl, rfl, rfl, rfl, rfl, trivial⟩ ⟨rfl, rfl, trivial⟩ ⟨rfl, rfl, trivial⟩
      · rw [ltB_eq, List.length_map] at c2
        have hao : ¬ a < M.length := by have := of_decide_eq_false c2; omega
        (repeat (first | refine r_end ?_ | (refine r_op ?_; first | refine r_pure hT rfl rfl rfl rfl rfl rfl ?_ | refine r_off rfl rfl rfl rfl rfl ?_) | refine gi_seq ?_ | refine gi_skip ?_ | (refine gi_cnd ?_; first | refine gi_true rfl ?_ | refine gi_false rfl ?_)))
        exact fin () _ _ _ (fun z hz => by have := (List.getElem?_eq_some_iff.1 hz).1; omega) ⟨rfl, rfl, rfl, rfl, rfl, rfl, rfl, trivial⟩ ⟨rfl, rfl, trivial⟩ ⟨rfl, rfl, trivial⟩
    case after =>
    intro _ hne
    have hat' : refR (rawE t ((ents m).take (i + 1))) = M.take a ++ x :: M.drop a := by
      cases hy : M[a]? with
      | none => rw [hy] at hat; exact hat
      | some y => rw [hy] at hat; simp only at hat; rw [if_neg (hne y hy)] at hat; exact hat
    (repeat (first | (refine r_op ?_; first | refine r_pure hT rfl rfl rfl rfl rfl rfl ?_ | refine r_lit hT rfl rfl rfl rfl rfl rfl rfl rfl rfl rfl rfl rfl rfl ?_) | refine gi_plain ?_))
    refine r_append hT rfl rfl rfl rfl rfl rfl rfl rfl rfl rfl rfl rfl rfl rfl rfl rfl rfl ?_ ?_
    · simp only [List.length_cons, List.length_nil, List.length_map, maxLen]
      constructor
      · omega
      · show _ * 40 ≤ _
        omega
    (repeat (first | refine r_end ?_ | (refine r_op ?_; refine r_pure hT rfl rfl rfl rfl rfl rfl ?_) | refine gi_seq ?_))
    refine gi_pick [0, 1] [0, 1] rfl rfl rfl rfl rfl ?_
    (repeat (first | (refine r_op ?_; first | refine r_pure hT rfl rfl rfl rfl rfl rfl ?_ | refine r_lit hT rfl rfl rfl rfl rfl rfl rfl rfl rfl rfl rfl rfl rfl ?_) | refine gi_plain ?_))
    refine r_append hT rfl rfl rfl rfl rfl rfl rfl rfl rfl rfl rfl rfl rfl rfl rfl rfl rfl ?_ ?_
    · simp only [List.length_cons, List.length_nil, List.length_map, maxLen]
      constructor
      · omega
      · show _ * 1 ≤ _
        omega
    (repeat (first | refine r_end ?_ | (refine r_op ?_; refine r_pure hT rfl rfl rfl rfl rfl rfl ?_) | refine gi_seq ?_))
    refine gi_pick [0, 1] [0, 1] rfl rfl rfl rfl rfl ?_
    (repeat (first | refine r_end ?_ | (refine r_op ?_; refine r_pure hT rfl rfl rfl rfl rfl rfl ?_) | refine gi_plain ?_ | refine gi_block ?_))
    have hMr : (M.map Rt.row).length = M.length := List.length_map _
    have hBr : (B.map bRow).length = M.length := by rw [List.length_map]; exact hBl
    have hLR : ∀ k, k ≤ M.length → ((M.map Rt.row ++ [zRr]).take (k + 1) ++ (M.map Rt.row).drop k).length = M.length + 1 := fun k hk => by simp; omega
    have hLB : ∀ k, k ≤ M.length → ((B.map bRow ++ [bRow false]).take (k + 1) ++ (B.map bRow).drop k).length = M.length + 1 := fun k hk => by simp; omega
    refine gi_loop (σ := Nat) (fun k => [(16, I (k : Int)), (15, I (a : Int)), (8, I (i : Int)), (9, .box 1 0), (2, .box 0 0), (5, rsNd t), (6, .sl 0), (7, .sl 1)]) (fun _ => [hMf m, hRt x]) (fun k => [eRr ((M.map Rt.row ++ [zRr]).take (k + 1) ++ (M.map Rt.row).drop k), eBr ((B.map bRow ++ [bRow false]).take (k + 1) ++ (B.map bRow).drop k)]) (fun k => a ≤ k ∧ k ≤ M.length) (fun k => k) M.length ⟨hal, Nat.le_refl _⟩ ⟨?_, rfl, rfl, rfl, rfl, rfl, rfl, rfl, trivial⟩ ⟨rfl, rfl, trivial⟩ ⟨?_, ?_, trivial⟩ (fun _ => rfl) (fun k hk next => ?_)
    · show some (I (wr .i64 (((M.map Rt.row ++ [zRr]).length : Int) - 1))) = some (I (M.length : Int))
      rw [List.length_append, hMr, show ([zRr] : List (List RV)).length = 1 from rfl, wsub1 (by omega)]
    · show eRr _ = eRr _
      rw [← hMr, sh0]
    · show eBr _ = eBr _
      rw [← hBr, sh0]
    obtain ⟨hk1, hk2⟩ := hk
    (repeat (first | refine r_end ?_ | (refine r_op ?_; refine r_pure hT rfl rfl rfl rfl rfl rfl ?_) | refine gi_seq ?_ | refine gi_plain ?_))
    refine gi_lt (p := (a : Int)) (q := (k : Int)) rfl (fun h4 => ?_) (fun h4 => ?_)
    · obtain ⟨k', rfl⟩ : ∃ k', k = k' + 1 := ⟨k - 1, by omega⟩
      have hko : k' < M.length := by omega
      obtain ⟨y, hy⟩ : ∃ y, M[k']? = some y := ⟨_, List.getElem?_eq_getElem hko⟩
      obtain ⟨f, hf⟩ : ∃ f, B[k']? = some f := ⟨_, List.getElem?_eq_getElem (by omega)⟩
      have hyr : (M.map Rt.row)[k']? = some y.row := row_get hy
      have hfr : (B.map bRow)[k']? = some (bRow f) := by rw [List.getElem?_map, hf]; rfl
      have e1 := wsub1 (a := k') (by omega)
      obtain ⟨ro, hro, hso⟩ := sh_any (R := M.map Rt.row) (z := zRr) (k := k' + 1) rt_len rfl (by omega)
      obtain ⟨rb, hrb, hsb'⟩ := sh_any (R := B.map bRow) (z := bRow false) (k := k' + 1) bl_len rfl (by omega)
      (repeat (first | (refine r_op ?_; refine r_pure hT rfl rfl rfl rfl rfl rfl ?_) | refine gi_seq ?_ | refine gi_plain ?_ | refine gi_skip ?_ | refine gi_block ?_))
      refine r_turn (d := 210) (y := I (k' : Int)) rfl (by rw [e1]) ?_
      refine r_idxS hT rfl rfl rfl rfl rfl rfl rfl rfl rfl rfl rfl rfl rfl (nn k') (by show ((k' : Nat) : Int).toNat < List.length _; rw [Int.toNat_natCast, hLR _ hk2]; omega) ?_
      skip
      refine r_loadS (row := y.row) hT rfl rfl rfl rfl rfl rfl rfl rfl (by show (List.append _ _)[((k' : Nat) : Int).toNat]? = _; rw [Int.toNat_natCast]; exact (sh_get1 (by rw [hMr]; exact hko)).trans hyr) rfl rfl rfl ?_
      skip
      refine r_idxS hT rfl rfl rfl rfl rfl rfl rfl rfl rfl rfl rfl rfl rfl (nn (k' + 1)) (by show ((k' + 1 : Nat) : Int).toNat < List.length _; rw [Int.toNat_natCast, hLR _ hk2]; omega) ?_
      skip
      refine r_storeS (row := ro) hT rfl rfl rfl rfl rfl rfl rfl rfl rfl rfl rfl rfl rfl (by show (List.append _ _)[((k' + 1 : Nat) : Int).toNat]? = _; rw [Int.toNat_natCast]; exact hro) ?_
      (repeat (first | refine r_end ?_ | (refine r_op ?_; refine r_pure hT rfl rfl rfl rfl rfl rfl ?_) | refine gi_plain ?_))
      refine r_turn (d := 218) (y := I (k' : Int)) rfl (by rw [e1]) ?_
      refine r_idxS hT rfl rfl rfl rfl rfl rfl rfl rfl rfl rfl rfl rfl rfl (nn k') (by show ((k' : Nat) : Int).toNat < List.length _; rw [Int.toNat_natCast, hLB _ hk2]; omega) ?_
      skip
      refine r_loadS (row := bRow f) hT rfl rfl rfl rfl rfl rfl rfl rfl (by show (List.append _ _)[((k' : Nat) : Int).toNat]? = _; rw [Int.toNat_natCast]; exact (sh_get1 (by rw [hBr]; exact hko)).trans hfr) rfl rfl rfl ?_
      skip
      refine r_idxS hT rfl rfl rfl rfl rfl rfl rfl rfl rfl rfl rfl rfl rfl (nn (k' + 1)) (by show ((k' + 1 : Nat) : Int).toNat < List.length _; rw [Int.toNat_natCast, hLB _ hk2]; omega) ?_
      skip
      refine r_storeS (row := rb) hT rfl rfl rfl rfl rfl rfl rfl rfl rfl rfl rfl rfl rfl (by show (List.append _ _)[((k' + 1 : Nat) : Int).toNat]? = _; rw [Int.toNat_natCast]; exact hrb) ?_
      (repeat (first | refine r_end ?_ | (refine r_op ?_; refine r_pure hT rfl rfl rfl rfl rfl rfl ?_) | refine gi_plain ?_ | refine gi_inBlock ?_))
      refine next k' _ _ _ ⟨by omega, by omega⟩ (by omega) ⟨?_, rfl, rfl, rfl, rfl, rfl, rfl, rfl, trivial⟩ ⟨rfl, rfl, trivial⟩ ⟨?_, ?_, trivial⟩
      · show some (I (wr .i64 (((k' + 1 : Nat) : Int) - 1))) = _
        rw [e1]
      · refine congrArg (fun L => some (⟨67, 5, L, false⟩ : SE)) ?_
        symm
        show List.set (List.append _ _) ((k' + 1 : Nat) : Int).toNat (setR ro 0 y.row) = _
        rw [Int.toNat_natCast, hso y.row rfl]
        exact sh_step hyr
      · refine congrArg (fun L => some (⟨4, 1, L, false⟩ : SE)) ?_
        symm
        show List.set (List.append _ _) ((k' + 1 : Nat) : Int).toNat (setR rb 0 (bRow f)) = _
        rw [Int.toNat_natCast, hsb' (bRow f) rfl]
        exact sh_step hfr
    · have hka : k = a := by omega
      subst hka
      clear next
      obtain ⟨ro, hro, hso⟩ := sh_any (R := M.map Rt.row) (z := zRr) (k := k) rt_len rfl (by omega)
      obtain ⟨rb, hrb, hsb'⟩ := sh_any (R := B.map bRow) (z := bRow false) (k := k) bl_len rfl (by omega)
      (repeat (first | (refine r_op ?_; first | refine r_pure hT rfl rfl rfl rfl rfl rfl ?_ | refine r_load hT rfl rfl rfl rfl rfl rfl rfl rfl rfl ?_) | refine gi_seq ?_ | refine gi_plain ?_ | refine gi_exit rfl ?_))
      refine r_idxS hT rfl rfl rfl rfl rfl rfl rfl rfl rfl rfl rfl rfl rfl (nn k) (by show ((k : Nat) : Int).toNat < List.length _; rw [Int.toNat_natCast, hLR _ hk2]; omega) ?_
      skip
      refine r_storeS (row := ro) hT rfl rfl rfl rfl rfl rfl rfl rfl rfl rfl rfl rfl rfl (by show (List.append _ _)[((k : Nat) : Int).toNat]? = _; rw [Int.toNat_natCast]; exact hro) ?_
      (repeat (first | refine r_end ?_ | (refine r_op ?_; first | refine r_pure hT rfl rfl rfl rfl rfl rfl ?_ | refine r_load hT rfl rfl rfl rfl rfl rfl rfl rfl rfl ?_) | refine gi_plain ?_))
      refine r_idxS hT rfl rfl rfl rfl rfl rfl rfl rfl rfl rfl rfl rfl rfl (nn k) (by show ((k : Nat) : Int).toNat < List.length _; rw [Int.toNat_natCast, hLB _ hk2]; omega) ?_
      skip
      refine r_storeS (row := rb) hT rfl rfl rfl rfl rfl rfl rfl rfl rfl rfl rfl rfl rfl (by show (List.append _ _)[((k : Nat) : Int).toNat]? = _; rw [Int.toNat_natCast]; exact hrb) ?_
      (repeat (first | refine r_end ?_ | (refine r_op ?_; refine r_pure hT rfl rfl rfl rfl rfl rfl ?_) | refine gi_plain ?_ | refine gi_inBlock ?_))
      refine on (M.take k ++ x :: M.drop k) (B.take k ++ (ltB (i : Int) ((m.sn.map Sn.row).length : Int)) :: B.drop k) ⟨hat'.symm, by simp only [List.length_append, List.length_cons, List.length_take, List.length_drop]; omega, fun h b hb => ?_⟩ _ _ _ ⟨rfl, rfl, rfl, rfl, rfl, trivial⟩ ⟨rfl, trivial⟩ ⟨?_, ?_, trivial⟩
      · rcases List.mem_append.1 hb with hb | hb
        · exact hR.sp (by omega) b (List.mem_of_mem_take hb)
        · rcases List.mem_cons.1 hb with hb | hb
          · rw [hb, ltB_eq, List.length_map]; exact decide_eq_true (by omega)
          · exact hR.sp (by omega) b (List.mem_of_mem_drop hb)
      · refine congrArg (fun L => some (⟨67, 5, L, false⟩ : SE)) ?_
        show (M.take k ++ x :: M.drop k).map Rt.row = List.set (List.append _ _) ((k : Nat) : Int).toNat (setR ro 0 x.row)
        rw [Int.toNat_natCast, hso x.row rfl]
        refine Eq.trans ?_ (sh_end (by rw [hMr]; exact hk2)).symm
        simp
      · refine congrArg (fun L => some (⟨4, 1, L, false⟩ : SE)) ?_
        show (B.take k ++ _ :: B.drop k).map bRow = List.set (List.append _ _) ((k : Nat) : Int).toNat (setR rb 0 (bRow _))
        rw [Int.toNat_natCast, hsb' (bRow _) rfl]
        refine Eq.trans ?_ (sh_end (by rw [hBr]; exact hk2)).symm
        simp
  · rw [hq] at h3
    have hil : i = m.sn.length + m.sb.length := by omega
    have heq := hR.eq
    rw [List.take_of_length_le (by omega), ← raw_ents] at heq
    (repeat (first | refine r_end ?_ | (refine r_op ?_; refine r_pure hT rfl rfl rfl rfl rfl rfl ?_) | refine gi_seq ?_ | refine gi_plain ?_ | refine gi_exit rfl ?_))
    refine gi_retX hT Try.func31 rfl [] [0] rfl rfl rfl rfl rfl rfl rfl rfl ?_
    exact ⟨rfl, rfl, by rw [heq]⟩
end Go.Proofs.Ytmocggibcniggaa.Kt
namespace Go.Proofs.Ytmocggibcniggaa.Kt
open Go Kw Go.Proofs
attribute [local irreducible] Kw.GI Kw.GR Kw.FnR Kw.FnX Kw.FnI
set_option maxHeartbeats 16000000
set_option maxRecDepth 100000
/-- The routes of a router: what both sides tell. -/
abbrev rtsL (l : List Ls) (self : Int) : List Rt := refR (rawL l self)
abbrev RFx (L : List Rt) : AV → Hp → Sp → Prop := fun r H S => r = fsRt L ∧ H = [] ∧ S = []
theorem RoutesF (l : List Ls) (self : Int) (hf : Few l) : FnX Try.prog 30 [avMf (mapL l), I self] [] [] (RFx (rtsL l self)) :=
  FnX.mono (RoutesL l self hf) (by
    rintro r H S ⟨rfl, rfl, L', rfl, h⟩
    have := (RtOk.told h).uniq (told_ref (rawL l self))
    subst this
    exact ⟨rfl, rfl, rfl⟩)
theorem pFx {L : List Rt} : ∀ r H1 S1, RFx L r H1 S1 → stA r = true ∧ StH H1 ∧ StS S1 := by
  rintro r H S ⟨rfl, rfl, rfl⟩
  exact ⟨stLL_Rt L, StH.nil, stS_nil⟩
theorem rts_len {l : List Ls} (hf : Few l) (self : Int) : (rtsL l self).length < 10000000 := by
  have hsn : (mapL l).sn.length ≤ 2000 := by
    have := flat_len (snF_len l) (vertsL l)
    have hvl : (vertsL l).length ≤ 2000 := map_vs hf
    show ((vertsL l).flatMap (snF l)).length ≤ _
    omega
  have hsb : (mapL l).sb.length ≤ 2000000 := by
    have := flat_len (fun v => sbF_len hf v) (vertsL l)
    have hvl : (vertsL l).length ≤ 2000 := map_vs hf
    show ((vertsL l).flatMap (sbF l)).length ≤ _
    omega
  have h1 := refR_len (rawL l self)
  have h2 := rawE_len (refTree (mapL l) ⟨1, self⟩) (ents (mapL l))
  rw [← raw_ents] at h2
  have hel : (ents (mapL l)).length = (mapL l).sn.length + (mapL l).sb.length := by unfold ents; rw [List.length_append, List.length_map, List.length_map]
  show (refR (rawL l self)).length < _
  unfold rawL at *
  omega
theorem RouteGraphs_ok (n : Int) (hn : 0 ≤ n ∧ n ≤ 255) (ps qs : List Int) (hps : ∀ p ∈ ps, 0 ≤ p ∧ p ≤ 255) (hqs : ∀ p ∈ qs, 0 ≤ p ∧ p ≤ 255) (one : List Bool) : FnR Try.prog 5 [u8 n, rs8 ps, rs8 qs, rsB one] (RB true) := by
  refine fnR_intro (T := TT) (n := 34) Try.func5 rfl rfl rfl (fun w Z => ?_)
  (repeat (first | refine r_end ?_ | (refine r_op ?_; refine r_pure hT rfl rfl rfl rfl rfl rfl ?_) | refine gi_seq ?_ | refine gi_plain ?_))
  refine r_callX [] [] (Graph_ok n hn ps qs hps hqs one) rfl rfl rfl rfl rfl rfl Try.func28 rfl rfl rfl rfl rfl rfl rfl pG ?_
  rintro r H1 S1 ⟨l, hl, rfl, rfl, rfl⟩
  have hf := hl.few
  refine r_freeze 0 rfl (frz_seO l) ?_
  skip
  refine r_call (MapF l hf) rfl rfl rfl rfl rfl rfl rfl rfl Try.func15 rfl rfl rfl pMapP ?_
  rintro r S1 ⟨rfl, rfl⟩
  (repeat (first | refine r_end ?_ | (refine r_op ?_; first | refine r_store hT rfl rfl rfl rfl rfl rfl rfl rfl rfl rfl ?_ | refine r_alloc hT rfl rfl rfl rfl rfl rfl rfl rfl rfl ?_) | refine gi_seq ?_))
  refine gi_freeze 1 (L' := (mapL l).vs.map Vt.row) rfl rfl ?_
  refine gi_freeze 2 (L' := (mapL l).es.map Eg.row) rfl rfl ?_
  refine gi_freeze 3 (L' := (mapL l).sb.map Sb.row) rfl rfl ?_
  refine gi_freeze 4 (L' := (mapL l).sn.map Sn.row) rfl rfl ?_
  refine gi_freeze 5 (L' := (mapL l).wl.map nRow) rfl rfl ?_
  refine gi_weak (F' := [(9, .box 0 0), (0, u8 n)]) (H' := [hMf (mapL l)]) (S' := []) ⟨rfl, rfl, trivial⟩ ⟨rfl, trivial⟩ trivial rfl ?_
  (repeat (first | refine r_end ?_ | (refine r_op ?_; refine r_pure hT rfl rfl rfl rfl rfl rfl ?_) | refine gi_plain ?_ | refine gi_block ?_))
  refine gi_loop (σ := Nat) (fun i => [(10, I (i : Int)), (9, .box 0 0), (0, u8 n)]) (fun _ => [hMf (mapL l)]) (fun _ => []) (fun i => i ≤ 7) (fun i => 7 - i) 1 (by decide) ⟨rfl, rfl, rfl, trivial⟩ ⟨rfl, trivial⟩ trivial (fun _ => rfl) (fun i hi next => ?_)
  have hi : i ≤ 7 := hi
  have hr := rm_pos (x := n) (y := 6) hn.1
  (repeat (first | refine r_end ?_ | (refine r_op ?_; refine r_pure hT rfl rfl rfl rfl rfl rfl ?_) | refine gi_seq ?_ | refine gi_plain ?_))
  refine gi_le rfl (fun h3 => ?_) (fun h3 => ?_)
  · have h3' : i < 7 := by
      rw [wr_i64 (n := n) (by omega) (by omega), wr_i64 (by omega) (by omega)] at h3
      omega
    (repeat (first | refine gi_seq ?_ | refine gi_skip ?_ | refine gi_block ?_))
    refine gi_drawT 1 false 8 [] [(1, .p), (4, .p), (0, .t), (3, .t), (2, .o), (5, .o), (6, .o), (7, .p)] .it Kt.hm rfl (by kernel_rfl) (fun w1 K => ?_)
    (repeat ((refine r_op ?_; first | refine r_pure hT rfl rfl rfl rfl rfl rfl ?_ | refine r_load hT rfl rfl rfl rfl rfl rfl rfl rfl rfl ?_)))
    refine r_callXz [] [] (RoutesF l i hf) rfl rfl rfl rfl rfl rfl Try.func30 rfl rfl rfl rfl rfl rfl rfl rfl rfl rfl rfl pFx ?_
    rintro r H1 S1 ⟨rfl, rfl, rfl⟩
    skip
    refine r_thaw 27 rfl ?_
    refine r_callXz [] [] (rRoutes_ok l i hf) rfl rfl rfl rfl rfl rfl Try.func31 rfl rfl rfl rfl rfl rfl rfl rfl rfl rfl rfl pCp ?_
    rintro r H1 S1 ⟨rfl, rfl, rfl⟩
    skip
    refine r_freezeZ 0 rfl rfl rfl ?_
    refine r_thaw 30 rfl ?_
    refine r_call (Same_ok (rtsL l i) (by have := rts_len hf i; omega)) rfl rfl rfl rfl rfl rfl rfl rfl Try.func29 rfl rfl rfl pB ?_
    rintro r S1 ⟨rfl, rfl⟩
    (repeat (first | refine r_end ?_ | (refine r_op ?_; refine r_pure hT rfl rfl rfl rfl rfl rfl ?_)))
    refine gi_known (d := 32) (b := false) rfl (by rw [notB_eq]; rfl) ?_
    (repeat (first | refine r_end ?_ | (refine r_op ?_; refine r_pure hT rfl rfl rfl rfl rfl rfl ?_) | refine gi_plain ?_ | refine gi_skip ?_ | refine gi_inBlock ?_ | (refine gi_cnd ?_; first | refine gi_true rfl ?_ | refine gi_false rfl ?_)))
    refine next (i + 1) _ _ _ (by omega) (by omega) ⟨?_, rfl, rfl, trivial⟩ ⟨rfl, trivial⟩ trivial
    show some (I (wr .i64 ((i : Int) + 1))) = _
    rw [wadd1 (by omega)]
  · clear next
    (repeat (first | refine gi_seq ?_ | refine gi_plain ?_ | refine gi_exit rfl ?_))
    refine r_call (awake19_ok) rfl rfl rfl rfl rfl rfl rfl rfl Try.func32 rfl rfl rfl pB ?_
    rintro r S1 ⟨rfl, rfl⟩
    (repeat (first | refine r_end ?_ | (refine r_op ?_; refine r_pure hT rfl rfl rfl rfl rfl rfl ?_)))
    refine gi_retW hT Try.func5 rfl rfl [] rfl rfl rfl rfl ?_
    exact ⟨rfl, rfl⟩
end Go.Proofs.Ytmocggibcniggaa.Kt
