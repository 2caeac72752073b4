/- Part of the proofs of this seat's statements: what the functions compute. No condition. -/
import Derived.Test.YtmocggibcniggaaG4
import Derived.Test.YtmocggibcniggaaG3
set_option linter.unusedSimpArgs false
set_option linter.unusedVariables false
namespace Go.Proofs.Ytmocggibcniggaa.Kt
open Go Kw Go.Proofs
attribute [local irreducible] Kw.GI Kw.GR Kw.FnR Kw.FnX
set_option maxHeartbeats 16000000
set_option maxRecDepth 100000
/-! ### nobody wants all groups on Graph's maps -/
theorem wl_nil {l : List Ls} (h : ∀ x ∈ l, x.fl = 0) : (mapL l).wl = [] := by
  show (vertsL l).flatMap (wlF l) = []
  rw [List.flatMap_eq_nil_iff]
  intro v _
  have h0 : ((findL l v).getD zLs).fl = 0 := by
    cases hf : findL l v with
    | none => rfl
    | some x => exact h x (find_mem hf)
  have h1 : wl1 l v = [] := by
    unfold wl1
    rw [h0]
    have : notB (eqB (Go.bits .and .i64 0 8) 0) = false := by kernel_rfl
    rw [this]
  unfold wlF
  split
  · rfl
  · exact h1
theorem GrOk.fl {n : Int} {l : List Ls} (h : GrOk n l) : ∀ x ∈ l, x.fl = 0 := by
  obtain ⟨k, gs, ns, h1, rfl, h2, h3, h4⟩ := h.ex
  intro x hx
  rcases List.mem_append.1 hx with hx | hx
  · obtain ⟨j, hj⟩ := List.mem_iff_getElem?.1 hx
    rw [(h2.el j x hj).1]
  · rw [(h3 x hx).1]
/-! ### laws of what Reach answers -/
theorem isW_nil (n : Nd) : isW [] n = false := by unfold isW; rw [List.any_nil, Bool.and_false]
/-- Who is not one, and is some nets away, is at one at the least. -/
theorem Rch.one {t : List Nd} {ms : List Vt} {o : List Int} (h : Rch t [] ms o) : ∀ (j k : Nat) (n : Nd) (x : Int), t.length - k ≤ j → t[k]? = some n → o[k]? = some x → 0 ≤ x → 1 ≤ x
  | 0, k, n, x, hj, hn, _, _ => by have := (List.getElem?_eq_some_iff.1 hn).1; omega
  | j + 1, k, n, x, hj, hn, hx, h0 => by
    have hv := h.at_ k n x hn hx
    cases hm : isMb ms n with
    | true => rw [hv.me (isW_nil n) hm]; omega
    | false =>
      obtain ⟨k', m, y, hk, hm', _, hy, hy0, rfl⟩ := hv.or (isW_nil n) hm h0
      have := Rch.one h j k' m y (by omega) hm' hy hy0
      have := cK_b n m
      have := cP_b n
      omega
/-- The statement's step. -/
def stS (n m : Nd) : Int := if n.v.k = 1 ∧ m.v.k = 2 then 0 else 1
theorem stS_eq {n m : Nd} (h : m.v.k = 1 ∨ m.v.k = 2) : cK n m + cP n = stS n m := by
  unfold cK cP stS
  by_cases h1 : n.v.k = 1
  · rcases h with h | h
    · rw [if_pos ⟨h, h1⟩, if_pos h1, if_neg (fun hh => by have := hh.2; omega)]; rfl
    · rw [if_neg (fun hh => by have := hh.1; omega), if_pos h1, if_pos ⟨h1, h⟩]; rfl
  · rw [if_neg (fun hh => h1 hh.2), if_neg h1, if_neg (fun hh => h1 hh.1)]; rfl
theorem stS_b (n m : Nd) : 0 ≤ stS n m ∧ stS n m ≤ 1 := by unfold stS; split <;> omega
theorem Rch.kid {t : List Nd} {ms : List Vt} {o : List Int} (h : Rch t [] ms o) {i k : Nat} {n m : Nd} {x y : Int} (hn : t[i]? = some n) (hx : o[i]? = some x) (hik : i < k) (hm : t[k]? = some m) (hp : m.p = i) (hy : o[k]? = some y) (hk : m.v.k = 1 ∨ m.v.k = 2) (hy0 : 0 ≤ y) : 0 ≤ x ∧ x ≤ y + stS n m := by
  have hv := h.at_ i n x hn hx
  have h1 := h.one t.length k m y (by omega) hm hy hy0
  have hs := stS_b n m
  cases hmm : isMb ms n with
  | true => rw [hv.me (isW_nil n) hmm]; omega
  | false =>
    have := hv.le (isW_nil n) hmm k m y hik hm hp hy hy0
    rw [stS_eq hk] at this
    exact this
end Go.Proofs.Ytmocggibcniggaa.Kt
namespace Go.Proofs.Ytmocggibcniggaa.Kt
open Go Kw Go.Proofs
attribute [local irreducible] Kw.GI Kw.GR Kw.FnR Kw.FnX
set_option maxHeartbeats 8000000
set_option maxRecDepth 100000
/-! ### the reference's addresses -/
theorem rRight_ok (a : Int) : FnR Try.prog 59 [I a] (RB (okA a)) := by
  refine fnR_intro (T := TT) (n := 9) Try.func59 rfl rfl rfl (fun w Z => ?_)
  (repeat (first | refine r_end ?_ | (refine r_op ?_; refine r_pure hT rfl rfl rfl rfl rfl rfl ?_) | refine gi_seq ?_ | refine gi_plain ?_))
  refine r_case (d := 5) rfl (fun h => ?_) (fun h => ?_)
  · (repeat (first | refine r_end ?_ | (refine r_op ?_; refine r_pure hT rfl rfl rfl rfl rfl rfl ?_)))
    refine gi_retW hT Try.func59 rfl rfl [] rfl rfl rfl rfl ?_
    exact ⟨by unfold okA; rw [h]; rfl, rfl⟩
  · (repeat (first | refine r_end ?_ | (refine r_op ?_; first | refine r_pure hT rfl rfl rfl rfl rfl rfl ?_ | refine r_off rfl rfl rfl rfl rfl ?_)))
    refine gi_retW hT Try.func59 rfl rfl [] rfl rfl rfl rfl ?_
    exact ⟨by unfold okA; rw [h]; rfl, rfl⟩
def inR (a p b : Int) : Bool := okA a && (okA p && (leB 0 b && (leB b 32 && eqB (netF a b) (netF p b))))
theorem rIn_ok (a p b : Int) : FnR Try.prog 26 [I a, I p, I b] (RB (inR a p b)) := by
  have done : ∀ {x : Bool}, x = inR a p b → Bo x = Bo (inR a p b) := fun h => by rw [h]
  refine fnR_intro (T := TT) (n := 30) Try.func26 rfl rfl rfl (fun w Z => ?_)
  (repeat (first | refine r_end ?_ | (refine r_op ?_; refine r_pure hT rfl rfl rfl rfl rfl rfl ?_) | refine gi_seq ?_ | refine gi_plain ?_))
  refine r_call (rRight_ok a) rfl rfl rfl rfl rfl rfl rfl rfl Try.func59 rfl rfl rfl pB ?_
  rintro r S1 ⟨rfl, rfl⟩
  (repeat ((refine r_op ?_; refine r_pure hT rfl rfl rfl rfl rfl rfl ?_)))
  refine r_case (d := 9) rfl (fun h1 => ?_) (fun h1 => ?_)
  · (repeat ((refine r_op ?_; refine r_pure hT rfl rfl rfl rfl rfl rfl ?_)))
    refine r_call (rRight_ok p) rfl rfl rfl rfl rfl rfl rfl rfl Try.func59 rfl rfl rfl pB ?_
    rintro r S1 ⟨rfl, rfl⟩
    (repeat ((refine r_op ?_; refine r_pure hT rfl rfl rfl rfl rfl rfl ?_)))
    refine r_case (d := 13) rfl (fun h2 => ?_) (fun h2 => ?_)
    · (repeat ((refine r_op ?_; refine r_pure hT rfl rfl rfl rfl rfl rfl ?_)))
      refine r_case (d := 17) rfl (fun h3 => ?_) (fun h3 => ?_)
      · (repeat ((refine r_op ?_; refine r_pure hT rfl rfl rfl rfl rfl rfl ?_)))
        refine r_case (d := 21) rfl (fun h4 => ?_) (fun h4 => ?_)
        · (repeat ((refine r_op ?_; refine r_pure hT rfl rfl rfl rfl rfl rfl ?_)))
          refine r_call (Net_ok a b) rfl rfl rfl rfl rfl rfl rfl rfl Try.func27 rfl rfl rfl pI ?_
          rintro r S1 ⟨rfl, rfl⟩
          (repeat ((refine r_op ?_; refine r_pure hT rfl rfl rfl rfl rfl rfl ?_)))
          refine r_call (Net_ok p b) rfl rfl rfl rfl rfl rfl rfl rfl Try.func27 rfl rfl rfl pI ?_
          rintro r S1 ⟨rfl, rfl⟩
          (repeat (first | refine r_end ?_ | (refine r_op ?_; refine r_pure hT rfl rfl rfl rfl rfl rfl ?_)))
          refine gi_retW hT Try.func26 rfl rfl [] rfl rfl rfl rfl ?_
          exact ⟨by unfold inR; rw [h1, h2, h3, h4]; rfl, rfl⟩
        · (repeat (first | refine r_end ?_ | (refine r_op ?_; first | refine r_pure hT rfl rfl rfl rfl rfl rfl ?_ | refine r_off rfl rfl rfl rfl rfl ?_)))
          refine gi_retW hT Try.func26 rfl rfl [] rfl rfl rfl rfl ?_
          exact ⟨by unfold inR; rw [h1, h2, h3, h4]; rfl, rfl⟩
      · (repeat (first | refine r_end ?_ | (refine r_op ?_; first | refine r_pure hT rfl rfl rfl rfl rfl rfl ?_ | refine r_off rfl rfl rfl rfl rfl ?_)))
        refine gi_retW hT Try.func26 rfl rfl [] rfl rfl rfl rfl ?_
        exact ⟨by unfold inR; rw [h1, h2, h3]; rfl, rfl⟩
    · (repeat (first | refine r_end ?_ | (refine r_op ?_; first | refine r_pure hT rfl rfl rfl rfl rfl rfl ?_ | refine r_off rfl rfl rfl rfl rfl ?_)))
      refine gi_retW hT Try.func26 rfl rfl [] rfl rfl rfl rfl ?_
      exact ⟨by unfold inR; rw [h1, h2]; rfl, rfl⟩
  · (repeat (first | refine r_end ?_ | (refine r_op ?_; first | refine r_pure hT rfl rfl rfl rfl rfl rfl ?_ | refine r_off rfl rfl rfl rfl rfl ?_)))
    refine gi_retW hT Try.func26 rfl rfl [] rfl rfl rfl rfl ?_
    exact ⟨by unfold inR; rw [h1]; rfl, rfl⟩

def xSn (a : Int) (st : Src) (s : Sn) : Src := if inR a s.p s.b = true ∧ st.b < s.b then ⟨s.v, s.p, s.b, true⟩ else st
def xSb (a : Int) (st : Src) (s : Sb) : Src := if inR a s.p s.b = true ∧ st.b < s.b then ⟨⟨1, s.r⟩, s.p, s.b, true⟩ else st
def z1 : Src := ⟨⟨0, 0⟩, 0, -1, false⟩
def xrcF (a : Int) (m : Mp) : Src := m.sb.foldl (xSb a) (m.sn.foldl (xSn a) z1)
/-- What is told of it. -/
def Src.told (s : Src) : Src := if s.b < 0 then z0 else ⟨s.v, s.p, s.b, true⟩
theorem rSource_ok (m : Mp) (a : Int) (h1 : m.sn.length < 1000000) (h2 : m.sb.length < 100000000) : FnR Try.prog 17 [avMf m, I a] (fun r S => r = (xrcF a m).told.av ∧ S = []) := by
  refine fnR_intro (T := TT) (n := 83) Try.func17 rfl rfl rfl (fun w Z => ?_)
  (repeat (first | refine r_end ?_ | (refine r_op ?_; first | refine r_pure hT rfl rfl rfl rfl rfl rfl ?_ | refine r_box rfl rfl rfl rfl rfl rfl rfl rfl rfl ?_ | refine r_store hT rfl rfl rfl rfl rfl rfl rfl rfl rfl rfl ?_ | refine r_alloc hT rfl rfl rfl rfl rfl rfl rfl rfl rfl ?_) | refine gi_seq ?_ | refine gi_plain ?_ | refine gi_block ?_))
  refine gi_loop (σ := Nat × Src) (fun s => [(11, I (s.1 : Int)), (2, .box 0 0), (4, .box 1 0), (8, .box 2 0), (1, I a), (9, I s.2.p), (10, I s.2.b)]) (fun s => [hMf m, hV ⟨0, 0⟩, hV s.2.v]) (fun _ => []) (fun s => s.1 ≤ m.sn.length ∧ s.2 = (m.sn.take s.1).foldl (xSn a) z1) (fun s => m.sn.length - s.1) (0, z1) ⟨Nat.zero_le _, rfl⟩ ⟨rfl, rfl, rfl, rfl, rfl, rfl, rfl, trivial⟩ ⟨rfl, rfl, rfl, trivial⟩ trivial (fun _ => rfl) (fun s hs next => ?_)
  obtain ⟨i, st⟩ := s
  obtain ⟨hi, hst⟩ := hs
  simp only at hi hst
  (repeat (first | refine r_end ?_ | (refine r_op ?_; first | refine r_pure hT rfl rfl rfl rfl rfl rfl ?_ | refine r_load hT rfl rfl rfl rfl rfl rfl rfl rfl rfl ?_) | refine gi_seq ?_ | refine gi_plain ?_))
  refine gi_lt (p := (i : Int)) (q := ((m.sn.map Sn.row).length : Int)) rfl (fun h3 => ?_) (fun h3 => ?_)
  · rw [List.length_map] at h3
    obtain ⟨x, hx⟩ : ∃ x, m.sn[i]? = some x := ⟨_, List.getElem?_eq_getElem (by omega)⟩
    have go : ∀ st', st' = xSn a st x → ∀ F1 H1 S1, SubF [(11, I (wr .i64 ((i : Int) + 1))), (2, .box 0 0), (4, .box 1 0), (8, .box 2 0), (1, I a), (9, I st'.p), (10, I st'.b)] F1 → SubH [hMf m, hV ⟨0, 0⟩, hV st'.v] H1 → SubS [] S1 → GI _ _ F1 H1 S1 := fun st' hst' F1 H1 S1 hF hH hS => by
      refine next (i + 1, st') F1 H1 S1 ⟨by simp only; omega, by simp only; rw [foldl_tk hx, ← hst, hst']⟩ (by simp only; omega) ?_ hH hS
      rw [wr_i64 (by omega) (by omega)] at hF
      simpa using hF
    clear next
    (repeat (first | (refine r_op ?_; first | refine r_pure hT rfl rfl rfl rfl rfl rfl ?_ | refine r_load hT rfl rfl rfl rfl rfl rfl rfl rfl rfl ?_) | refine gi_seq ?_ | refine gi_plain ?_ | refine gi_skip ?_ | refine gi_block ?_))
    refine r_thaw 24 rfl ?_
    refine r_idx (row := x.row) hT rfl rfl rfl rfl rfl rfl rfl rfl rfl rfl rfl rfl (by show (0 : Int) ≤ (i : Int); omega) (by simp [hx]) ?_
    (repeat (first | refine r_end ?_ | (refine r_op ?_; first | refine r_pure hT rfl rfl rfl rfl rfl rfl ?_ | refine r_load hT rfl rfl rfl rfl rfl rfl rfl rfl rfl ?_ | refine r_store hT rfl rfl rfl rfl rfl rfl rfl rfl rfl rfl ?_ | refine r_alloc hT rfl rfl rfl rfl rfl rfl rfl rfl rfl ?_) | refine gi_seq ?_ | refine gi_plain ?_))
    refine r_call (rIn_ok a x.p x.b) rfl rfl rfl rfl rfl rfl rfl rfl Try.func26 rfl rfl rfl pB ?_
    rintro r S1 ⟨rfl, rfl⟩
    (repeat ((refine r_op ?_; refine r_pure hT rfl rfl rfl rfl rfl rfl ?_)))
    refine r_case (d := 34) rfl (fun c1 => ?_) (fun c1 => ?_)
    · (repeat (first | refine r_end ?_ | (refine r_op ?_; first | refine r_pure hT rfl rfl rfl rfl rfl rfl ?_ | refine r_load hT rfl rfl rfl rfl rfl rfl rfl rfl rfl ?_)))
      refine gi_lt rfl (fun c3 => ?_) (fun c3 => ?_)
      · have hs1 : (⟨x.v, x.p, x.b, true⟩ : Src) = xSn a st x := (if_pos ⟨c1, c3⟩).symm
        (repeat (first | refine r_end ?_ | (refine r_op ?_; first | refine r_pure hT rfl rfl rfl rfl rfl rfl ?_ | refine r_load hT rfl rfl rfl rfl rfl rfl rfl rfl rfl ?_ | refine r_store hT rfl rfl rfl rfl rfl rfl rfl rfl rfl rfl ?_) | refine gi_seq ?_ | refine gi_plain ?_ | refine gi_inBlock ?_))
        exact go _ hs1 _ _ _ ⟨rfl, rfl, rfl, rfl, rfl, rfl, rfl, trivial⟩ ⟨rfl, rfl, rfl, trivial⟩ trivial
      · have hs1 : st = xSn a st x := (if_neg (fun h => c3 h.2)).symm
        (repeat (first | refine r_end ?_ | (refine r_op ?_; refine r_pure hT rfl rfl rfl rfl rfl rfl ?_) | refine gi_plain ?_ | refine gi_skip ?_ | refine gi_inBlock ?_))
        exact go _ hs1 _ _ _ ⟨rfl, rfl, rfl, rfl, rfl, rfl, rfl, trivial⟩ ⟨rfl, rfl, rfl, trivial⟩ trivial
    · have hs1 : st = xSn a st x := (if_neg (fun h => by rw [c1] at h; cases h.1)).symm
      (repeat (first | refine r_end ?_ | (refine r_op ?_; first | refine r_pure hT rfl rfl rfl rfl rfl rfl ?_ | refine r_off rfl rfl rfl rfl rfl ?_) | refine gi_plain ?_ | refine gi_skip ?_ | refine gi_inBlock ?_ | (refine gi_cnd ?_; first | refine gi_true rfl ?_ | refine gi_false rfl ?_)))
      exact go _ hs1 _ _ _ ⟨rfl, rfl, rfl, rfl, rfl, rfl, rfl, trivial⟩ ⟨rfl, rfl, rfl, trivial⟩ trivial
  · rw [List.length_map] at h3
    have hil : i = m.sn.length := by omega
    subst hil
    rw [List.take_length] at hst
    clear next
    (repeat (first | refine r_end ?_ | (refine r_op ?_; refine r_pure hT rfl rfl rfl rfl rfl rfl ?_) | refine gi_seq ?_ | refine gi_plain ?_ | refine gi_block ?_ | refine gi_exit rfl ?_))
    refine gi_loop (σ := Nat × Src) (fun s => [(13, I (s.1 : Int)), (2, .box 0 0), (4, .box 1 0), (8, .box 2 0), (1, I a), (9, I s.2.p), (10, I s.2.b)]) (fun s => [hMf m, hV ⟨0, 0⟩, hV s.2.v]) (fun _ => []) (fun s => s.1 ≤ m.sb.length ∧ s.2 = (m.sb.take s.1).foldl (xSb a) st) (fun s => m.sb.length - s.1) (0, st) ⟨Nat.zero_le _, rfl⟩ ⟨rfl, rfl, rfl, rfl, rfl, rfl, rfl, trivial⟩ ⟨rfl, rfl, rfl, trivial⟩ trivial (fun _ => rfl) (fun s hs next => ?_)
    obtain ⟨i, su⟩ := s
    obtain ⟨hi, hsu⟩ := hs
    simp only at hi hsu
    (repeat (first | refine r_end ?_ | (refine r_op ?_; first | refine r_pure hT rfl rfl rfl rfl rfl rfl ?_ | refine r_load hT rfl rfl rfl rfl rfl rfl rfl rfl rfl ?_) | refine gi_seq ?_ | refine gi_plain ?_))
    refine gi_lt (p := (i : Int)) (q := ((m.sb.map Sb.row).length : Int)) rfl (fun h3 => ?_) (fun h3 => ?_)
    · rw [List.length_map] at h3
      obtain ⟨x, hx⟩ : ∃ x, m.sb[i]? = some x := ⟨_, List.getElem?_eq_getElem (by omega)⟩
      have go : ∀ st', st' = xSb a su x → ∀ F1 H1 S1, SubF [(13, I (wr .i64 ((i : Int) + 1))), (2, .box 0 0), (4, .box 1 0), (8, .box 2 0), (1, I a), (9, I st'.p), (10, I st'.b)] F1 → SubH [hMf m, hV ⟨0, 0⟩, hV st'.v] H1 → SubS [] S1 → GI _ _ F1 H1 S1 := fun st' hst' F1 H1 S1 hF hH hS => by
        refine next (i + 1, st') F1 H1 S1 ⟨by simp only; omega, by simp only; rw [foldl_tk hx, ← hsu, hst']⟩ (by simp only; omega) ?_ hH hS
        rw [wr_i64 (by omega) (by omega)] at hF
        simpa using hF
      clear next
      (repeat (first | (refine r_op ?_; first | refine r_pure hT rfl rfl rfl rfl rfl rfl ?_ | refine r_load hT rfl rfl rfl rfl rfl rfl rfl rfl rfl ?_) | refine gi_seq ?_ | refine gi_plain ?_ | refine gi_skip ?_ | refine gi_block ?_))
      refine r_thaw 54 rfl ?_
      refine r_idx (row := x.row) hT rfl rfl rfl rfl rfl rfl rfl rfl rfl rfl rfl rfl (by show (0 : Int) ≤ (i : Int); omega) (by simp [hx]) ?_
      (repeat (first | refine r_end ?_ | (refine r_op ?_; first | refine r_pure hT rfl rfl rfl rfl rfl rfl ?_ | refine r_load hT rfl rfl rfl rfl rfl rfl rfl rfl rfl ?_ | refine r_store hT rfl rfl rfl rfl rfl rfl rfl rfl rfl rfl ?_ | refine r_alloc hT rfl rfl rfl rfl rfl rfl rfl rfl rfl ?_) | refine gi_seq ?_ | refine gi_plain ?_))
      refine r_call (rIn_ok a x.p x.b) rfl rfl rfl rfl rfl rfl rfl rfl Try.func26 rfl rfl rfl pB ?_
      rintro r S1 ⟨rfl, rfl⟩
      (repeat ((refine r_op ?_; refine r_pure hT rfl rfl rfl rfl rfl rfl ?_)))
      refine r_case (d := 64) rfl (fun c1 => ?_) (fun c1 => ?_)
      · (repeat (first | refine r_end ?_ | (refine r_op ?_; first | refine r_pure hT rfl rfl rfl rfl rfl rfl ?_ | refine r_load hT rfl rfl rfl rfl rfl rfl rfl rfl rfl ?_)))
        refine gi_lt rfl (fun c3 => ?_) (fun c3 => ?_)
        · have hs1 : (⟨⟨1, x.r⟩, x.p, x.b, true⟩ : Src) = xSb a su x := (if_pos ⟨c1, c3⟩).symm
          (repeat (first | refine r_end ?_ | (refine r_op ?_; first | refine r_pure hT rfl rfl rfl rfl rfl rfl ?_ | refine r_load hT rfl rfl rfl rfl rfl rfl rfl rfl rfl ?_ | refine r_store hT rfl rfl rfl rfl rfl rfl rfl rfl rfl rfl ?_) | refine gi_seq ?_ | refine gi_plain ?_ | refine gi_inBlock ?_))
          exact go _ hs1 _ _ _ ⟨rfl, rfl, rfl, rfl, rfl, rfl, rfl, trivial⟩ ⟨rfl, rfl, rfl, trivial⟩ trivial
        · have hs1 : su = xSb a su x := (if_neg (fun h => c3 h.2)).symm
          (repeat (first | refine r_end ?_ | (refine r_op ?_; refine r_pure hT rfl rfl rfl rfl rfl rfl ?_) | refine gi_plain ?_ | refine gi_skip ?_ | refine gi_inBlock ?_))
          exact go _ hs1 _ _ _ ⟨rfl, rfl, rfl, rfl, rfl, rfl, rfl, trivial⟩ ⟨rfl, rfl, rfl, trivial⟩ trivial
      · have hs1 : su = xSb a su x := (if_neg (fun h => by rw [c1] at h; cases h.1)).symm
        (repeat (first | refine r_end ?_ | (refine r_op ?_; first | refine r_pure hT rfl rfl rfl rfl rfl rfl ?_ | refine r_off rfl rfl rfl rfl rfl ?_) | refine gi_plain ?_ | refine gi_skip ?_ | refine gi_inBlock ?_ | (refine gi_cnd ?_; first | refine gi_true rfl ?_ | refine gi_false rfl ?_)))
        exact go _ hs1 _ _ _ ⟨rfl, rfl, rfl, rfl, rfl, rfl, rfl, trivial⟩ ⟨rfl, rfl, rfl, trivial⟩ trivial
    · rw [List.length_map] at h3
      have hil : i = m.sb.length := by omega
      subst hil
      rw [List.take_length] at hsu
      have hfin : su = xrcF a m := by unfold xrcF; rw [hsu, hst]
      clear next
      (repeat (first | refine r_end ?_ | (refine r_op ?_; refine r_pure hT rfl rfl rfl rfl rfl rfl ?_) | refine gi_seq ?_ | refine gi_plain ?_ | refine gi_exit rfl ?_))
      refine gi_lt (q := 0) rfl (fun h4 => ?_) (fun h4 => ?_)
      · (repeat (first | refine r_end ?_ | (refine r_op ?_; first | refine r_pure hT rfl rfl rfl rfl rfl rfl ?_ | refine r_store hT rfl rfl rfl rfl rfl rfl rfl rfl rfl rfl ?_) | refine gi_seq ?_ | refine gi_plain ?_))
        refine gi_retW hT Try.func17 rfl rfl [] rfl rfl rfl rfl ?_
        exact ⟨by rw [← hfin]; unfold Src.told; rw [if_pos h4]; rfl, rfl⟩
      · (repeat (first | refine r_end ?_ | (refine r_op ?_; first | refine r_pure hT rfl rfl rfl rfl rfl rfl ?_ | refine r_load hT rfl rfl rfl rfl rfl rfl rfl rfl rfl ?_ | refine r_store hT rfl rfl rfl rfl rfl rfl rfl rfl rfl rfl ?_) | refine gi_seq ?_ | refine gi_plain ?_ | refine gi_skip ?_))
        refine gi_retW hT Try.func17 rfl rfl [] rfl rfl rfl rfl ?_
        exact ⟨by rw [← hfin]; unfold Src.told; rw [if_neg h4], rfl⟩
end Go.Proofs.Ytmocggibcniggaa.Kt
namespace Go.Proofs.Ytmocggibcniggaa.Kt
open Go Kw Go.Proofs
set_option maxHeartbeats 4000000
set_option maxRecDepth 100000
/-! ### both sides' addresses are one -/
theorem and_i64 (a b : Nat) (ha : a < 9223372036854775808) (hb : b < 9223372036854775808) : Go.bits .and .i64 (a : Int) (b : Int) = ((a &&& b : Nat) : Int) := by
  have hx : a &&& b < 2 ^ 63 := Nat.and_lt_two_pow _ (by omega)
  have h1 : (BitVec.ofInt 64 (a : Int)).toNat = a := by
    rw [BitVec.ofInt_natCast, BitVec.toNat_ofNat]; exact Nat.mod_eq_of_lt (by omega)
  have h2 : (BitVec.ofInt 64 (b : Int)).toNat = b := by
    rw [BitVec.ofInt_natCast, BitVec.toNat_ofNat]; exact Nat.mod_eq_of_lt (by omega)
  show IntKind.i64.wrap ((BitVec.ofInt 64 (a : Int) &&& BitVec.ofInt 64 (b : Int)).toNat : Int) = _
  rw [BitVec.toNat_and, h1, h2, ← wr_eq, wr_i64 (by omega) (by omega)]
def gM (n : Nat) : Int := Go.bits .and .i64 (wr .i64 (4294967295 * 2 ^ (min n 64))) 4294967295
theorem gM_all : (List.range 33).all (fun n => decide (0 ≤ gM n) && decide (gM n ≤ 4294967295)) = true := by kernel_rfl
theorem mask_b (b : Int) : 0 ≤ maskF b ∧ maskF b ≤ 4294967295 := by
  obtain ⟨h1, h2⟩ := nM_rng b
  have h3 : maskF b = gM (nM b).toNat := by unfold maskF gM; rfl
  have h4 := List.all_eq_true.1 gM_all (nM b).toNat (List.mem_range.2 (by omega))
  rw [Bool.and_eq_true] at h4
  rw [h3]
  exact ⟨of_decide_eq_true h4.1, of_decide_eq_true h4.2⟩
theorem and_all {a : Int} (h0 : 0 ≤ a) (h1 : a ≤ 4294967295) : Go.bits .and .i64 a 4294967295 = a := by
  obtain ⟨n, rfl⟩ : ∃ n : Nat, a = n := ⟨a.toNat, by omega⟩
  have := and_i64 n 4294967295 (by omega) (by omega)
  rw [show ((4294967295 : Nat) : Int) = 4294967295 from rfl] at this
  rw [this]
  have h : n &&& (2 ^ 32 - 1) = n % 2 ^ 32 := Nat.and_two_pow_sub_one_eq_mod n 32
  rw [show (2 ^ 32 - 1 : Nat) = 4294967295 by decide, show (2 ^ 32 : Nat) = 4294967296 by decide] at h
  rw [h, Nat.mod_eq_of_lt (by omega)]
theorem net_same {a : Int} (b : Int) (h0 : 0 ≤ a) (h1 : a ≤ 4294967295) : netF a b = pnetF a b := by
  unfold netF pnetF
  rw [and_all h0 h1]
theorem okA_b {a : Int} (h : okA a = true) : 0 ≤ a ∧ a ≤ 4294967295 := by
  unfold okA at h
  rw [Bool.and_eq_true, leB_eq, leB_eq] at h
  exact ⟨of_decide_eq_true h.1, of_decide_eq_true h.2⟩
theorem in_same (a p b : Int) : inR a p b = inP a p b := by
  unfold inR inP
  cases ha : okA a with
  | false => rw [Bool.false_and, Bool.false_and]
  | true =>
    cases hp : okA p with
    | false => rw [Bool.true_and, Bool.true_and, Bool.false_and, Bool.false_and]
    | true =>
      rw [net_same b (okA_b ha).1 (okA_b ha).2, net_same b (okA_b hp).1 (okA_b hp).2]
theorem in_b {a p b : Int} (h : inP a p b = true) : 0 ≤ b := by
  unfold inP at h
  rw [Bool.and_eq_true, Bool.and_eq_true, Bool.and_eq_true, leB_eq] at h
  exact of_decide_eq_true h.2.2.1
/-- Nothing yet, or the same. -/
def Bth (s z : Src) : Prop := (s = z0 ∧ z = z1) ∨ (s = z ∧ z.ok = true ∧ 0 ≤ z.b)
theorem Bth.sn {a : Int} {s z : Src} (h : Bth s z) (x : Sn) : Bth (sn1 a s x) (xSn a z x) := by
  unfold sn1 xSn
  rw [in_same]
  by_cases hi : inP a x.p x.b = true
  · have hb := in_b hi
    rcases h with ⟨rfl, rfl⟩ | ⟨rfl, h1, h2⟩
    · rw [if_pos ⟨hi, .inl rfl⟩, if_pos ⟨hi, show (-1 : Int) < x.b by omega⟩]
      exact .inr ⟨rfl, rfl, hb⟩
    · by_cases hl : s.b < x.b
      · rw [if_pos ⟨hi, .inr hl⟩, if_pos ⟨hi, hl⟩]
        exact .inr ⟨rfl, rfl, hb⟩
      · rw [if_neg (fun hh => by rcases hh.2 with hh | hh; (rw [h1] at hh; cases hh); exact hl hh), if_neg (fun hh => hl hh.2)]
        exact .inr ⟨rfl, h1, h2⟩
  · rw [if_neg (fun hh => hi hh.1), if_neg (fun hh => hi hh.1)]
    exact h
theorem Bth.sb {a : Int} {s z : Src} (h : Bth s z) (x : Sb) : Bth (sb1 a s x) (xSb a z x) := by
  unfold sb1 xSb
  rw [in_same]
  by_cases hi : inP a x.p x.b = true
  · have hb := in_b hi
    rcases h with ⟨rfl, rfl⟩ | ⟨rfl, h1, h2⟩
    · rw [if_pos ⟨hi, .inl rfl⟩, if_pos ⟨hi, show (-1 : Int) < x.b by omega⟩]
      exact .inr ⟨rfl, rfl, hb⟩
    · by_cases hl : s.b < x.b
      · rw [if_pos ⟨hi, .inr hl⟩, if_pos ⟨hi, hl⟩]
        exact .inr ⟨rfl, rfl, hb⟩
      · rw [if_neg (fun hh => by rcases hh.2 with hh | hh; (rw [h1] at hh; cases hh); exact hl hh), if_neg (fun hh => hl hh.2)]
        exact .inr ⟨rfl, h1, h2⟩
  · rw [if_neg (fun hh => hi hh.1), if_neg (fun hh => hi hh.1)]
    exact h
theorem Bth.fold {α : Type} {f g : Src → α → Src} (hfg : ∀ s z x, Bth s z → Bth (f s x) (g z x)) : ∀ (l : List α) (s z : Src), Bth s z → Bth (l.foldl f s) (l.foldl g z)
  | [], _, _, h => h
  | x :: l, s, z, h => by
    rw [List.foldl_cons, List.foldl_cons]
    exact Bth.fold hfg l _ _ (hfg s z x h)
theorem src_bth (a : Int) (m : Mp) : Bth (srcF a m) (xrcF a m) :=
  Bth.fold (fun _ _ x h => h.sb x) _ _ _ (Bth.fold (fun _ _ x h => h.sn x) _ _ _ (.inl ⟨rfl, rfl⟩))
/-- The two sides tell one. -/
theorem src_same (a : Int) (m : Mp) : (xrcF a m).told = srcF a m := by
  unfold Src.told
  rcases src_bth a m with ⟨h1, h2⟩ | ⟨h1, h2, h3⟩
  · rw [h1, h2]; rfl
  · rw [if_neg (show ¬ (xrcF a m).b < 0 by omega), h1]
    cases hx : xrcF a m with
    | mk v p b ok => rw [hx] at h2; cases h2; rfl
end Go.Proofs.Ytmocggibcniggaa.Kt
namespace Go.Proofs.Ytmocggibcniggaa.Kt
open Go Kw Go.Proofs
attribute [local irreducible] Kw.GI Kw.GR Kw.FnR Kw.FnX Kw.FnI
set_option maxHeartbeats 16000000
set_option maxRecDepth 100000
/-! ### the routes of a map, as they are laid -/
abbrev hO (k : Nat) : Option (TypeId × List AV) := some (63, [.sl k])
def putR (t : List Nd) (L : List Rt) (v : Vt) (p b c : Int) : List Rt := match placeL t v with
  | none => L
  | some at_ => L ++ [⟨p, b, wr .i64 ((t.getD at_ zNd).c + c), (hopF t at_).1, (hopF t at_).2⟩]
theorem putR_len (t : List Nd) (L : List Rt) (v : Vt) (p b c : Int) : (putR t L v p b c).length ≤ L.length + 1 := by
  unfold putR
  split
  · omega
  · simp
theorem eRt_ap (a b : List Rt) : eRt (a ++ b) = some (⟨67, 5, a.map Rt.row ++ b.map Rt.row, false⟩ : SE) := by rw [eRt, List.map_append]
theorem stLL_Rt : ∀ (l : List Rt), stLL (l.map Rt.row) = true
  | [] => rfl
  | c :: l => by
    show (stL (Rt.row c) && stLL (l.map Rt.row)) = true
    rw [stLL_Rt l]; rfl
abbrev RPut (t : List Nd) (L : List Rt) : AV → Hp → Sp → Prop := fun r H S => r = .tup [] ∧ H = [hTt t, hO 0] ∧ S = [eRt L]
theorem pPut {t : List Nd} {L : List Rt} : ∀ r H1 S1, RPut t L r H1 S1 → stA r = true ∧ StH H1 ∧ StS S1 := by
  rintro r H S ⟨rfl, rfl, rfl⟩
  refine ⟨rfl, fun e he ty cs h => ?_, fun e he s hs => ?_⟩
  · simp only [List.mem_cons, List.not_mem_nil, or_false] at he
    rcases he with rfl | rfl
    · cases h
      show (stLL (t.map Nd.row) && true) = true
      rw [stLL_Nd]; rfl
    · cases h
      rfl
  · rw [List.mem_singleton] at he
    subst he
    cases hs
    exact stLL_Rt L
theorem pCp {L : List Rt} : ∀ r H1 S1, RV1 (eRt L) r H1 S1 → stA r = true ∧ StH H1 ∧ StS S1 := by
  rintro r H S ⟨rfl, rfl, rfl⟩
  refine ⟨rfl, StH.nil, fun e he s hs => ?_⟩
  rw [List.mem_singleton] at he
  subst he
  cases hs
  exact stLL_Rt L
theorem put_ok (t : List Nd) (L : List Rt) (v : Vt) (p b c : Int) (h : Tre t) (ht : t.length < 1000000) (hL : L.length < 100000000) : FnX Try.prog 60 [v.av, I p, I b, I c, .box 0 0, .box 1 0] [hTt t, hO 0] [eRt L] (RPut t (putR t L v p b c)) := by
  refine fnX_intro (T := TT) (n := 39) Try.func60 rfl rfl rfl (fun w X Z Y B => ?_)
  (repeat (first | refine r_end ?_ | (refine r_op ?_; first | refine r_load hT rfl rfl rfl rfl rfl rfl rfl rfl rfl ?_ | refine r_box rfl rfl rfl rfl rfl rfl rfl rfl rfl ?_) | refine gi_seq ?_ | refine gi_plain ?_))
  refine r_thaw 13 rfl ?_
  refine r_call (pPlace_ok t v ht) rfl rfl rfl rfl rfl rfl rfl rfl Try.func61 rfl rfl rfl pI ?_
  rintro r S1 ⟨rfl, rfl⟩
  (repeat (first | refine r_end ?_ | (refine r_op ?_; refine r_pure hT rfl rfl rfl rfl rfl rfl ?_) | refine gi_seq ?_ | refine gi_plain ?_))
  refine gi_lt (p := placeI (placeL t v)) (q := 0) rfl (fun c1 => ?_) (fun c1 => ?_)
  · have hn : placeL t v = none := by
      cases hp : placeL t v with
      | none => rfl
      | some i => rw [hp] at c1; have c1 : (i : Int) < 0 := c1; omega
    skip
    refine gi_retX hT Try.func60 rfl [0, 1] [0] rfl rfl rfl rfl rfl rfl rfl rfl ?_
    exact ⟨rfl, rfl, by unfold putR; rw [hn]⟩
  obtain ⟨i, hi⟩ : ∃ i, placeL t v = some i := by
    cases hp : placeL t v with
    | none => rw [hp] at c1; exact absurd (show (-1 : Int) < 0 by decide) c1
    | some i => exact ⟨i, rfl⟩
  have hil := placeL_lt hi
  obtain ⟨n, hn⟩ : ∃ n, t[i]? = some n := ⟨_, List.getElem?_eq_getElem hil⟩
  have hgd : t.getD i zNd = n := by rw [List.getD_eq_getElem?_getD, hn]; rfl
  have hpi : placeI (placeL t v) = (i : Int) := by rw [hi]; rfl
  rw [hpi]
  have hput : putR t L v p b c = L ++ [⟨p, b, wr .i64 (n.c + c), (hopF t i).1, (hopF t i).2⟩] := by unfold putR; rw [hi]; simp only; rw [hgd]
  rw [hput]
  (repeat (first | (refine r_op ?_; first | refine r_pure hT rfl rfl rfl rfl rfl rfl ?_ | refine r_load hT rfl rfl rfl rfl rfl rfl rfl rfl rfl ?_) | refine gi_seq ?_ | refine gi_plain ?_ | refine gi_skip ?_))
  refine r_thaw 19 rfl ?_
  refine r_call (hop_ok t i h hil ht) rfl rfl rfl rfl rfl rfl rfl rfl Try.func62 rfl rfl rfl pHop ?_
  rintro r S1 ⟨rfl, rfl⟩
  (repeat (first | refine r_end ?_ | (refine r_op ?_; refine r_pure hT rfl rfl rfl rfl rfl rfl ?_)))
  refine gi_drawM [14, 15] [(1, .p), (2, .p), (4, .p), (8, .p), (10, .p), (11, .p), (0, .t), (3, .t), (5, .p), (6, .p), (7, .t), (9, .p), (12, .p), (13, .o), (14, .l), (15, .l)] [0, 0, 0, 0, 0, 24, 32, 64, 0, 384, 0, 0, 3590, 4096, 8193, 32767] [0, 0, 0, 0, 0, 24, 32, 64, 0, 384, 0, 0, 3590, 4096, 8193, 16384] Kt.hm rfl (by kernel_rfl) (fun w1 K => ?_)
  (repeat ((refine r_op ?_; first | refine r_pure hT rfl rfl rfl rfl rfl rfl ?_ | refine r_load hT rfl rfl rfl rfl rfl rfl rfl rfl rfl ?_)))
  refine r_thaw 27 rfl ?_
  refine r_idx (row := n.row) hT rfl rfl rfl rfl rfl rfl rfl rfl rfl rfl rfl rfl (nn i) (by simp [hn]) ?_
  (repeat ((refine r_op ?_; first | refine r_pure hT rfl rfl rfl rfl rfl rfl ?_ | refine r_load hT rfl rfl rfl rfl rfl rfl rfl rfl rfl ?_ | refine r_lit hT rfl rfl rfl rfl rfl rfl rfl rfl rfl rfl rfl rfl rfl ?_)))
  refine r_append hT rfl rfl rfl rfl rfl rfl rfl rfl rfl rfl rfl rfl rfl rfl rfl rfl rfl ?_ ?_
  · simp only [List.length_cons, List.length_nil, List.length_map, maxLen]
    constructor
    · omega
    · show _ * 40 ≤ _
      omega
  (repeat (first | refine r_end ?_ | (refine r_op ?_; refine r_store hT rfl rfl rfl rfl rfl rfl rfl rfl rfl rfl ?_)))
  refine gi_finX hT Try.func60 rfl [0, 1] [0] rfl rfl rfl rfl rfl rfl rfl rfl ?_
  exact ⟨rfl, rfl, by rw [eRt_ap]; rfl⟩
/-- The routes as they are laid: of the Spans, of the Stubs. -/
def rawS (t : List Nd) (l : List Sn) (L : List Rt) : List Rt := l.foldl (fun L s => putR t L s.v s.p s.b 0) L
def rawB (t : List Nd) (l : List Sb) (L : List Rt) : List Rt := l.foldl (fun L s => putR t L ⟨1, s.r⟩ s.p s.b s.c) L
def rawR (m : Mp) (t : List Nd) : List Rt := rawB t m.sb (rawS t m.sn [])
theorem rawS_len (t : List Nd) : ∀ (l : List Sn) (L : List Rt), (rawS t l L).length ≤ L.length + l.length
  | [], L => Nat.le_refl _
  | s :: l, L => by
    have := rawS_len t l (putR t L s.v s.p s.b 0)
    have := putR_len t L s.v s.p s.b 0
    show (rawS t l (putR t L s.v s.p s.b 0)).length ≤ _
    rw [List.length_cons]
    omega
theorem rawB_len (t : List Nd) : ∀ (l : List Sb) (L : List Rt), (rawB t l L).length ≤ L.length + l.length
  | [], L => Nat.le_refl _
  | s :: l, L => by
    have := rawB_len t l (putR t L ⟨1, s.r⟩ s.p s.b s.c)
    have := putR_len t L ⟨1, s.r⟩ s.p s.b s.c
    show (rawB t l (putR t L ⟨1, s.r⟩ s.p s.b s.c)).length ≤ _
    rw [List.length_cons]
    omega
/-- What is told: sorted, of each net the first. -/
def RtOk (L L' : List Rt) : Prop := ∃ q, Seg 0 L.length L q ∧ Srt 0 L.length q ∧ L' = cpL q
abbrev fsRt (l : List Rt) : AV := .r (.fs 5 (l.map Rt.row))
abbrev RRts (L : List Rt) : AV → Hp → Sp → Prop := fun r H S => H = [] ∧ S = [] ∧ ∃ L', r = fsRt L' ∧ RtOk L L'
theorem Routes_ok (l : List Ls) (self : Int) (hf : Few l) (hT0 : Tre (refTree (mapL l) ⟨1, self⟩)) : FnX Try.prog 30 [avMf (mapL l), I self] [] [] (RRts (rawR (mapL l) (refTree (mapL l) ⟨1, self⟩))) := by
  obtain ⟨t, ht⟩ : ∃ t, t = refTree (mapL l) ⟨1, self⟩ := ⟨_, rfl⟩
  have htl := tree_lt hf ⟨1, self⟩
  have hvl : (vertsL l).length ≤ 2000 := map_vs hf
  have hsn : (mapL l).sn.length ≤ 2000 := by
    have := flat_len (snF_len l) (vertsL l)
    show ((vertsL l).flatMap (snF l)).length ≤ _
    omega
  have hsb : (mapL l).sb.length ≤ 2000000 := by
    have := flat_len (fun v => sbF_len hf v) (vertsL l)
    show ((vertsL l).flatMap (sbF l)).length ≤ _
    omega
  have htree := pTreeL l ⟨1, self⟩ hf
  rw [← ht] at hT0 htl htree
  rw [← ht]
  generalize mapL l = m at hsn hsb htree
  refine fnX_intro (T := TT) (n := 62) Try.func30 rfl rfl rfl (fun w X Z Y B => ?_)
  (repeat (first | refine r_end ?_ | (refine r_op ?_; first | refine r_pure hT rfl rfl rfl rfl rfl rfl ?_ | refine r_load hT rfl rfl rfl rfl rfl rfl rfl rfl rfl ?_ | refine r_box rfl rfl rfl rfl rfl rfl rfl rfl rfl ?_) | refine gi_seq ?_ | refine gi_plain ?_))
  refine r_call (htree) rfl rfl rfl rfl rfl rfl rfl rfl Try.func49 rfl rfl rfl pT1 ?_
  rintro r S1 ⟨rfl, rfl⟩
  (repeat (first | refine r_end ?_ | (refine r_op ?_; first | refine r_store hT rfl rfl rfl rfl rfl rfl rfl rfl rfl rfl ?_ | refine r_alloc hT rfl rfl rfl rfl rfl rfl rfl rfl rfl ?_) | refine gi_seq ?_))
  refine gi_freeze 0 (L' := t.map Nd.row) rfl rfl ?_
  refine gi_weak (F' := [(2, .box 0 0), (5, .box 1 0)]) (H' := [hMf m, hTt t]) (S' := []) ⟨rfl, rfl, trivial⟩ ⟨rfl, rfl, trivial⟩ trivial rfl ?_
  (repeat (first | refine r_end ?_ | (refine r_op ?_; first | refine r_pure hT rfl rfl rfl rfl rfl rfl ?_ | refine r_load hT rfl rfl rfl rfl rfl rfl rfl rfl rfl ?_ | refine r_alloc hT rfl rfl rfl rfl rfl rfl rfl rfl rfl ?_) | refine gi_seq ?_ | refine gi_plain ?_ | refine gi_block ?_))
  refine gi_adoptH (e := 67) (sz := 5) 2 0 rfl rfl ?_
  refine gi_thaw 18 rfl ?_
  refine gi_loop (σ := Nat) (fun i => [(20, I (i : Int)), (19, I (m.sn.length : Int)), (18, rsSn m.sn), (7, .fn 60 [.box 1 0, .box 2 0]), (2, .box 0 0), (6, .box 2 0)]) (fun _ => [hMf m, hTt t, hO 0]) (fun i => [eRt (rawS t (m.sn.take i) [])]) (fun i => i ≤ m.sn.length) (fun i => m.sn.length - i) 0 (Nat.zero_le _) ⟨rfl, by show some (I (((m.sn.map Sn.row).length : Nat) : Int)) = _; rw [List.length_map], rfl, rfl, rfl, rfl, trivial⟩ ⟨rfl, rfl, rfl, trivial⟩ ⟨rfl, trivial⟩ (fun _ => rfl) (fun i hi next => ?_)
  have hi : i ≤ m.sn.length := hi
  have hrl := rawS_len t (m.sn.take i) []
  rw [List.length_take, List.length_nil] at hrl
  (repeat (first | refine r_end ?_ | (refine r_op ?_; refine r_pure hT rfl rfl rfl rfl rfl rfl ?_) | refine gi_seq ?_ | refine gi_plain ?_))
  refine gi_lt (p := (i : Int)) (q := (m.sn.length : Int)) rfl (fun h3 => ?_) (fun h3 => ?_)
  · obtain ⟨s, hs⟩ : ∃ s, m.sn[i]? = some s := ⟨_, List.getElem?_eq_getElem (by omega)⟩
    have hstep : rawS t (m.sn.take (i + 1)) [] = putR t (rawS t (m.sn.take i) []) s.v s.p s.b 0 := foldl_tk hs
    generalize rawS t (m.sn.take i) [] = L at hrl hstep
    (repeat (first | refine gi_seq ?_ | refine gi_plain ?_ | refine gi_skip ?_ | refine gi_block ?_))
    refine r_idx (row := s.row) hT rfl rfl rfl rfl rfl rfl rfl rfl rfl rfl rfl rfl (nn i) (by simp [hs]) ?_
    (repeat (first | refine r_end ?_ | (refine r_op ?_; first | refine r_pure hT rfl rfl rfl rfl rfl rfl ?_ | refine r_load hT rfl rfl rfl rfl rfl rfl rfl rfl rfl ?_ | refine r_store hT rfl rfl rfl rfl rfl rfl rfl rfl rfl rfl ?_ | refine r_alloc hT rfl rfl rfl rfl rfl rfl rfl rfl rfl ?_) | refine gi_plain ?_))
    refine r_callX [1, 2] [0] (put_ok t L s.v s.p s.b 0 hT0 htl (by omega)) rfl rfl rfl rfl rfl rfl Try.func60 rfl rfl rfl rfl rfl rfl rfl pPut ?_
    rintro r H1 S1 ⟨rfl, rfl, rfl⟩
    (repeat (first | refine r_end ?_ | (refine r_op ?_; refine r_pure hT rfl rfl rfl rfl rfl rfl ?_) | refine gi_plain ?_ | refine gi_inBlock ?_))
    refine gi_pick [0, 1, 2] [1] rfl rfl rfl rfl rfl ?_
    refine next (i + 1) _ _ _ (by omega) (by omega) ⟨?_, rfl, rfl, rfl, rfl, rfl, trivial⟩ ⟨rfl, rfl, rfl, trivial⟩ ⟨by rw [hstep], trivial⟩
    show some (I (wr .i64 ((i : Int) + 1))) = _
    rw [wadd1 (by omega)]
  have hin : i = m.sn.length := by omega
  subst hin
  clear next
  rw [List.take_length] at hrl
  rw [List.take_length]
  obtain ⟨L0, hL0⟩ : ∃ L0, L0 = rawS t m.sn [] := ⟨_, rfl⟩
  rw [← hL0] at hrl
  rw [← hL0]
  (repeat (first | refine r_end ?_ | (refine r_op ?_; first | refine r_pure hT rfl rfl rfl rfl rfl rfl ?_ | refine r_load hT rfl rfl rfl rfl rfl rfl rfl rfl rfl ?_) | refine gi_seq ?_ | refine gi_plain ?_ | refine gi_block ?_ | refine gi_exit rfl ?_))
  refine gi_thaw 34 rfl ?_
  refine gi_loop (σ := Nat) (fun i => [(36, I (i : Int)), (35, I (m.sb.length : Int)), (34, rsSb m.sb), (7, .fn 60 [.box 1 0, .box 2 0]), (6, .box 2 0)]) (fun _ => [hMf m, hTt t, hO 0]) (fun i => [eRt (rawB t (m.sb.take i) L0)]) (fun i => i ≤ m.sb.length) (fun i => m.sb.length - i) 0 (Nat.zero_le _) ⟨rfl, by show some (I (((m.sb.map Sb.row).length : Nat) : Int)) = _; rw [List.length_map], rfl, rfl, rfl, trivial⟩ ⟨rfl, rfl, rfl, trivial⟩ ⟨rfl, trivial⟩ (fun _ => rfl) (fun i hi next => ?_)
  have hi : i ≤ m.sb.length := hi
  have hrb := rawB_len t (m.sb.take i) L0
  rw [List.length_take] at hrb
  (repeat (first | refine r_end ?_ | (refine r_op ?_; refine r_pure hT rfl rfl rfl rfl rfl rfl ?_) | refine gi_seq ?_ | refine gi_plain ?_))
  refine gi_lt (p := (i : Int)) (q := (m.sb.length : Int)) rfl (fun h3 => ?_) (fun h3 => ?_)
  · obtain ⟨s, hs⟩ : ∃ s, m.sb[i]? = some s := ⟨_, List.getElem?_eq_getElem (by omega)⟩
    have hstep : rawB t (m.sb.take (i + 1)) L0 = putR t (rawB t (m.sb.take i) L0) ⟨1, s.r⟩ s.p s.b s.c := foldl_tk hs
    generalize rawB t (m.sb.take i) L0 = L at hrb hstep
    (repeat (first | refine gi_seq ?_ | refine gi_plain ?_ | refine gi_skip ?_ | refine gi_block ?_))
    refine r_idx (row := s.row) hT rfl rfl rfl rfl rfl rfl rfl rfl rfl rfl rfl rfl (nn i) (by simp [hs]) ?_
    (repeat (first | refine r_end ?_ | (refine r_op ?_; first | refine r_pure hT rfl rfl rfl rfl rfl rfl ?_ | refine r_load hT rfl rfl rfl rfl rfl rfl rfl rfl rfl ?_ | refine r_store hT rfl rfl rfl rfl rfl rfl rfl rfl rfl rfl ?_ | refine r_alloc hT rfl rfl rfl rfl rfl rfl rfl rfl rfl ?_) | refine gi_plain ?_))
    refine r_callX [1, 2] [0] (put_ok t L ⟨1, s.r⟩ s.p s.b s.c hT0 htl (by omega)) rfl rfl rfl rfl rfl rfl Try.func60 rfl rfl rfl rfl rfl rfl rfl pPut ?_
    rintro r H1 S1 ⟨rfl, rfl, rfl⟩
    (repeat (first | refine r_end ?_ | (refine r_op ?_; refine r_pure hT rfl rfl rfl rfl rfl rfl ?_) | refine gi_plain ?_ | refine gi_inBlock ?_))
    refine gi_pick [0, 1, 2] [1] rfl rfl rfl rfl rfl ?_
    refine next (i + 1) _ _ _ (by omega) (by omega) ⟨?_, rfl, rfl, rfl, rfl, trivial⟩ ⟨rfl, rfl, rfl, trivial⟩ ⟨by rw [hstep], trivial⟩
    show some (I (wr .i64 ((i : Int) + 1))) = _
    rw [wadd1 (by omega)]
  have hin : i = m.sb.length := by omega
  subst hin
  clear next
  rw [List.take_length] at hrb
  rw [List.take_length]
  have hraw : rawB t m.sb L0 = rawR m t := by unfold rawR; rw [hL0]
  rw [hraw] at hrb
  rw [hraw]
  generalize rawR m t = L at hrb
  (repeat (first | (refine r_op ?_; refine r_load hT rfl rfl rfl rfl rfl rfl rfl rfl rfl ?_) | refine gi_seq ?_ | refine gi_plain ?_ | refine gi_exit rfl ?_))
  refine r_callI 0 (sortS_ok L (by omega)) rfl rfl rfl rfl rfl rfl Try.func63 rfl rfl rfl rfl ?_
  rintro L' hl' ⟨q, rfl, g1, g2⟩
  have hq := g1.len
  (repeat (first | refine r_end ?_ | (refine r_op ?_; refine r_load hT rfl rfl rfl rfl rfl rfl rfl rfl rfl ?_) | refine gi_seq ?_ | refine gi_plain ?_))
  refine r_callX [] [0] (cp_ok q (by omega)) rfl rfl rfl rfl rfl rfl Try.func67 rfl rfl rfl rfl rfl rfl rfl pCp ?_
  rintro r H1 S1 ⟨rfl, rfl, rfl⟩
  (repeat (first | refine r_end ?_ | (refine r_op ?_; refine r_store hT rfl rfl rfl rfl rfl rfl rfl rfl rfl rfl ?_) | refine gi_seq ?_))
  refine gi_pick [0, 1, 2] [1] rfl rfl rfl rfl rfl ?_
  refine gi_freeze 0 (L' := (cpL q).map Rt.row) rfl rfl ?_
  (repeat (first | (refine r_op ?_; first | refine r_pure hT rfl rfl rfl rfl rfl rfl ?_ | refine r_load hT rfl rfl rfl rfl rfl rfl rfl rfl rfl ?_) | refine gi_plain ?_))
  refine r_slice3F hT rfl rfl rfl rfl rfl rfl rfl rfl rfl rfl rfl rfl ?_
  (repeat (first | refine r_end ?_ | (refine r_op ?_; refine r_pure hT rfl rfl rfl rfl rfl rfl ?_)))
  refine gi_retX hT Try.func30 rfl [] [] rfl rfl rfl rfl rfl rfl rfl rfl ?_
  exact ⟨rfl, rfl, _, rfl, q, g1, g2, rfl⟩
end Go.Proofs.Ytmocggibcniggaa.Kt
namespace Go.Proofs.Ytmocggibcniggaa.Kt
open Go Kw Go.Proofs
attribute [local irreducible] Kw.GI Kw.GR Kw.FnR Kw.FnX Kw.FnI
set_option maxHeartbeats 16000000
set_option maxRecDepth 100000
/-! ### the route to an address -/
def zRt : Rt := ⟨0, 0, 0, 0, 0⟩
def fd1 (a : Int) (m : Option (Nat × Rt)) (i : Nat) (x : Rt) : Option (Nat × Rt) := match inP a x.p x.b with
  | true => (match m with
    | none => some (i, x)
    | some (j, y) => (match ltB y.b x.b with
      | true => some (i, x)
      | false => some (j, y)))
  | false => m
def fndN (l : List Rt) (a : Int) : Nat → Option (Nat × Rt)
  | 0 => none
  | i + 1 => match l[i]? with
    | some x => fd1 a (fndN l a i) i x
    | none => fndN l a i
def fdI : Option (Nat × Rt) → Int
  | none => -1
  | some (i, _) => i
def findF (l : List Rt) (a : Int) : Rt × Bool := match fndN l a l.length with
  | none => (zRt, false)
  | some (_, x) => (x, true)
theorem fnd_step {l : List Rt} {a : Int} {i : Nat} {x : Rt} (h : l[i]? = some x) : fndN l a (i + 1) = fd1 a (fndN l a i) i x := by rw [fndN, h]
theorem fnd_at {l : List Rt} {a : Int} : ∀ {i j : Nat} {x : Rt}, fndN l a i = some (j, x) → l[j]? = some x ∧ j < i
  | 0, j, x, h => by cases h
  | i + 1, j, x, h => by
    unfold fndN at h
    cases hy : l[i]? with
    | none =>
      rw [hy] at h
      obtain ⟨h1, h2⟩ := fnd_at (i := i) h
      exact ⟨h1, by omega⟩
    | some y =>
      rw [hy] at h
      unfold fd1 at h
      simp only at h
      split at h
      · split at h
        · cases h; exact ⟨hy, by omega⟩
        · rename_i q k z hq
          split at h
          · cases h; exact ⟨hy, by omega⟩
          · cases h
            obtain ⟨h1, h2⟩ := fnd_at (i := i) hq
            exact ⟨h1, by omega⟩
      · obtain ⟨h1, h2⟩ := fnd_at (i := i) h
        exact ⟨h1, by omega⟩
abbrev RFd (x : Rt × Bool) : AV → Sp → Prop := fun r S => r = .tup [x.1.av, Bo x.2] ∧ S = []
theorem pFdR {x : Rt × Bool} : ∀ r S1, (r = .tup [x.1.av, Bo x.2] ∧ S1 = []) → plainA r = true ∧ PlainS S1 := pA rfl
abbrev zRtC : List AV := [I 0, I 0, I 0, I 0, I 0]
theorem pFind_ok (l : List Rt) (a : Int) (hl : l.length < 100000000) : FnR Try.prog 33 [rsRt l, I a] (RFd (findF l a)) := by
  refine fnR_intro (T := TT) (n := 45) Try.func33 rfl rfl rfl (fun w Z => ?_)
  (repeat (first | refine r_end ?_ | (refine r_op ?_; first | refine r_pure hT rfl rfl rfl rfl rfl rfl ?_ | refine r_alloc hT rfl rfl rfl rfl rfl rfl rfl rfl rfl ?_) | refine gi_seq ?_ | refine gi_plain ?_ | refine gi_block ?_))
  refine gi_loop (σ := Nat) (fun i => [(11, I (i : Int)), (10, I (l.length : Int)), (9, rsRt l), (6, I (fdI (fndN l a i))), (0, rsRt l), (1, I a), (4, .box 0 0)]) (fun _ => [some (67, zRtC)]) (fun _ => []) (fun i => i ≤ l.length) (fun i => l.length - i) 0 (Nat.zero_le _) ⟨rfl, by show some (I (((l.map Rt.row).length : Nat) : Int)) = _; rw [List.length_map], rfl, rfl, rfl, rfl, rfl, trivial⟩ ⟨rfl, trivial⟩ trivial (fun _ => rfl) (fun i hi next => ?_)
  have hi : i ≤ l.length := hi
  (repeat (first | refine r_end ?_ | (refine r_op ?_; refine r_pure hT rfl rfl rfl rfl rfl rfl ?_) | refine gi_seq ?_ | refine gi_plain ?_))
  refine gi_lt (p := (i : Int)) (q := (l.length : Int)) rfl (fun h3 => ?_) (fun h3 => ?_)
  · obtain ⟨x, hx⟩ : ∃ x, l[i]? = some x := ⟨_, List.getElem?_eq_getElem (by omega)⟩
    have hst := fnd_step (a := a) hx
    have hat := fun j y h => fnd_at (l := l) (a := a) (i := i) (j := j) (x := y) h
    have on : ∀ m', fndN l a (i + 1) = m' → ∀ F1 H1 S1, SubF [(11, I (wr .i64 ((i : Int) + 1))), (10, I (l.length : Int)), (9, rsRt l), (6, I (fdI m')), (0, rsRt l), (1, I a), (4, .box 0 0)] F1 → SubH [some (67, zRtC)] H1 → SubS [] S1 → GI _ _ F1 H1 S1 := fun m' hm' F1 H1 S1 hF hH hS => by
      refine next (i + 1) F1 H1 S1 (by omega) (by omega) ?_ hH hS
      rw [wadd1 (by omega)] at hF
      rw [hm']
      exact hF
    clear next
    generalize fndN l a i = m at hst hat
    unfold fd1 at hst
    (repeat (first | (refine r_op ?_; refine r_pure hT rfl rfl rfl rfl rfl rfl ?_) | refine gi_seq ?_ | refine gi_plain ?_ | refine gi_skip ?_ | refine gi_block ?_))
    refine r_idx (row := x.row) hT rfl rfl rfl rfl rfl rfl rfl rfl rfl rfl rfl rfl (nn i) (by simp [hx]) ?_
    (repeat (first | refine r_end ?_ | (refine r_op ?_; first | refine r_pure hT rfl rfl rfl rfl rfl rfl ?_ | refine r_load hT rfl rfl rfl rfl rfl rfl rfl rfl rfl ?_ | refine r_store hT rfl rfl rfl rfl rfl rfl rfl rfl rfl rfl ?_ | refine r_alloc hT rfl rfl rfl rfl rfl rfl rfl rfl rfl ?_) | refine gi_seq ?_))
    refine gi_drawM [] [(0, .p), (1, .p), (3, .p), (2, .t), (4, .t), (5, .o), (6, .p), (7, .p), (8, .p), (9, .p), (10, .p), (12, .p), (13, .p), (14, .p), (15, .p), (11, .t), (16, .t), (17, .p), (18, .p), (19, .p)] [0, 0, 2, 0, 8, 21, 32, 64, 192, 320, 512, 1536, 512, 512, 12800, 16896, 33280, 68096, 131648, 262208] [0, 0, 2, 0, 8, 21, 32, 64, 192, 320, 512, 1536, 512, 512, 12800, 16896, 33280, 68096, 131648, 262208] Kt.hm rfl (by kernel_rfl) (fun w1 K => ?_)
    (repeat ((refine r_op ?_; first | refine r_pure hT rfl rfl rfl rfl rfl rfl ?_ | refine r_load hT rfl rfl rfl rfl rfl rfl rfl rfl rfl ?_)))
    refine r_call (In_ok a x.p x.b) rfl rfl rfl rfl rfl rfl rfl rfl Try.func48 rfl rfl rfl pB ?_
    rintro r S1 ⟨rfl, rfl⟩
    (repeat ((refine r_op ?_; refine r_pure hT rfl rfl rfl rfl rfl rfl ?_)))
    refine r_case (d := 22) rfl (fun c1 => ?_) (fun c1 => ?_)
    · rw [c1] at hst
      simp only at hst
      cases m with
      | none =>
        (repeat ((refine r_op ?_; refine r_pure hT rfl rfl rfl rfl rfl rfl ?_)))
        refine r_known (d := 25) (b := true) rfl (by rw [ltB_eq]; rfl) ?_
        (repeat (first | refine r_end ?_ | (refine r_op ?_; first | refine r_pure hT rfl rfl rfl rfl rfl rfl ?_ | refine r_off rfl rfl rfl rfl rfl ?_) | refine gi_plain ?_ | refine gi_inBlock ?_ | (refine gi_cnd ?_; first | refine gi_true rfl ?_ | refine gi_false rfl ?_)))
        exact on _ hst _ _ _ ⟨rfl, rfl, rfl, rfl, rfl, rfl, rfl, trivial⟩ ⟨rfl, trivial⟩ trivial
      | some q =>
        obtain ⟨j, y⟩ := q
        obtain ⟨hy, hj⟩ := hat j y rfl
        simp only at hst
        (repeat ((refine r_op ?_; refine r_pure hT rfl rfl rfl rfl rfl rfl ?_)))
        refine r_known (d := 25) (b := false) rfl (by rw [ltB_eq]; exact decide_eq_false (by show ¬ (j : Int) < 0; omega)) ?_
        (repeat ((refine r_op ?_; refine r_pure hT rfl rfl rfl rfl rfl rfl ?_)))
        refine r_idx (row := y.row) (j := (j : Int)) hT rfl rfl rfl rfl rfl rfl rfl rfl rfl rfl rfl rfl (nn j) (by simp [hy]) ?_
        (repeat (first | refine r_end ?_ | (refine r_op ?_; first | refine r_pure hT rfl rfl rfl rfl rfl rfl ?_ | refine r_load hT rfl rfl rfl rfl rfl rfl rfl rfl rfl ?_)))
        refine gi_cond rfl (fun c2 => ?_) (fun c2 => ?_)
        · rw [c2] at hst
          (repeat (first | refine r_end ?_ | (refine r_op ?_; refine r_pure hT rfl rfl rfl rfl rfl rfl ?_) | refine gi_plain ?_ | refine gi_inBlock ?_))
          exact on _ hst _ _ _ ⟨rfl, rfl, rfl, rfl, rfl, rfl, rfl, trivial⟩ ⟨rfl, trivial⟩ trivial
        · rw [c2] at hst
          (repeat (first | refine r_end ?_ | (refine r_op ?_; refine r_pure hT rfl rfl rfl rfl rfl rfl ?_) | refine gi_plain ?_ | refine gi_skip ?_ | refine gi_inBlock ?_))
          exact on _ hst _ _ _ ⟨rfl, rfl, rfl, rfl, rfl, rfl, rfl, trivial⟩ ⟨rfl, trivial⟩ trivial
    · rw [c1] at hst
      (repeat (first | refine r_end ?_ | (refine r_op ?_; first | refine r_pure hT rfl rfl rfl rfl rfl rfl ?_ | refine r_off rfl rfl rfl rfl rfl ?_) | refine gi_plain ?_ | refine gi_skip ?_ | refine gi_inBlock ?_ | (refine gi_cnd ?_; first | refine gi_true rfl ?_ | refine gi_false rfl ?_)))
      exact on _ hst _ _ _ ⟨rfl, rfl, rfl, rfl, rfl, rfl, rfl, trivial⟩ ⟨rfl, trivial⟩ trivial
  · have hil : i = l.length := by omega
    subst hil
    unfold findF
    have hat := fun j y h => fnd_at (l := l) (a := a) (i := l.length) (j := j) (x := y) h
    generalize fndN l a l.length = m at hat
    cases m with
    | none =>
      (repeat (first | refine r_end ?_ | (refine r_op ?_; refine r_pure hT rfl rfl rfl rfl rfl rfl ?_) | refine gi_seq ?_ | refine gi_plain ?_ | refine gi_exit rfl ?_))
      refine gi_known (d := 39) (b := true) rfl (by rw [ltB_eq]; rfl) ?_
      (repeat (first | refine r_end ?_ | (refine r_op ?_; first | refine r_pure hT rfl rfl rfl rfl rfl rfl ?_ | refine r_store hT rfl rfl rfl rfl rfl rfl rfl rfl rfl rfl ?_) | refine gi_seq ?_ | refine gi_plain ?_ | (refine gi_cnd ?_; first | refine gi_true rfl ?_ | refine gi_false rfl ?_)))
      refine gi_retW hT Try.func33 rfl rfl [] rfl rfl rfl rfl ?_
      exact ⟨rfl, rfl⟩
    | some q =>
      obtain ⟨j, y⟩ := q
      obtain ⟨hy, hj⟩ := hat j y rfl
      (repeat (first | refine r_end ?_ | (refine r_op ?_; refine r_pure hT rfl rfl rfl rfl rfl rfl ?_) | refine gi_seq ?_ | refine gi_plain ?_ | refine gi_exit rfl ?_))
      refine gi_known (d := 39) (b := false) rfl (by rw [ltB_eq]; exact decide_eq_false (by show ¬ (j : Int) < 0; omega)) ?_
      (repeat (first | (refine r_op ?_; refine r_pure hT rfl rfl rfl rfl rfl rfl ?_) | refine gi_seq ?_ | refine gi_plain ?_ | refine gi_skip ?_ | (refine gi_cnd ?_; first | refine gi_true rfl ?_ | refine gi_false rfl ?_)))
      refine r_idx (row := y.row) (j := (j : Int)) hT rfl rfl rfl rfl rfl rfl rfl rfl rfl rfl rfl rfl (nn j) (by simp [hy]) ?_
      (repeat (first | refine r_end ?_ | (refine r_op ?_; first | refine r_pure hT rfl rfl rfl rfl rfl rfl ?_ | refine r_load hT rfl rfl rfl rfl rfl rfl rfl rfl rfl ?_ | refine r_store hT rfl rfl rfl rfl rfl rfl rfl rfl rfl rfl ?_)))
      refine gi_retW hT Try.func33 rfl rfl [] rfl rfl rfl rfl ?_
      exact ⟨rfl, rfl⟩
theorem rFind_ok (l : List Rt) (a : Int) (hl : l.length < 100000000) : FnR Try.prog 34 [rsRt l, I a] (RFd (findF l a)) := by
  refine fnR_intro (T := TT) (n := 51) Try.func34 rfl rfl rfl (fun w Z => ?_)
  (repeat (first | refine r_end ?_ | (refine r_op ?_; first | refine r_pure hT rfl rfl rfl rfl rfl rfl ?_ | refine r_alloc hT rfl rfl rfl rfl rfl rfl rfl rfl rfl ?_) | refine gi_seq ?_ | refine gi_plain ?_ | refine gi_block ?_))
  refine gi_loop (σ := Nat) (fun i => [(7, I (i : Int)), (6, I (fdI (fndN l a i))), (0, rsRt l), (1, I a), (4, .box 0 0)]) (fun _ => [some (67, zRtC)]) (fun _ => []) (fun i => i ≤ l.length) (fun i => l.length - i) 0 (Nat.zero_le _) ⟨rfl, rfl, rfl, rfl, rfl, trivial⟩ ⟨rfl, trivial⟩ trivial (fun _ => rfl) (fun i hi next => ?_)
  have hi : i ≤ l.length := hi
  (repeat (first | refine r_end ?_ | (refine r_op ?_; refine r_pure hT rfl rfl rfl rfl rfl rfl ?_) | refine gi_seq ?_ | refine gi_plain ?_))
  refine gi_lt (p := (i : Int)) (q := ((l.map Rt.row).length : Int)) rfl (fun h3 => ?_) (fun h3 => ?_)
  · rw [List.length_map] at h3
    obtain ⟨x, hx⟩ : ∃ x, l[i]? = some x := ⟨_, List.getElem?_eq_getElem (by omega)⟩
    have hst := fnd_step (a := a) hx
    have hat := fun j y h => fnd_at (l := l) (a := a) (i := i) (j := j) (x := y) h
    have on : ∀ m', fndN l a (i + 1) = m' → ∀ F1 H1 S1, SubF [(7, I (wr .i64 ((i : Int) + 1))), (6, I (fdI m')), (0, rsRt l), (1, I a), (4, .box 0 0)] F1 → SubH [some (67, zRtC)] H1 → SubS [] S1 → GI _ _ F1 H1 S1 := fun m' hm' F1 H1 S1 hF hH hS => by
      refine next (i + 1) F1 H1 S1 (by omega) (by omega) ?_ hH hS
      rw [wadd1 (by omega)] at hF
      rw [hm']
      exact hF
    clear next
    generalize fndN l a i = m at hst hat
    unfold fd1 at hst
    (repeat (first | refine gi_seq ?_ | refine gi_skip ?_ | refine gi_block ?_))
    refine gi_drawM [] [(0, .p), (1, .p), (2, .p), (3, .p), (4, .p), (6, .p), (7, .p), (8, .p), (9, .p), (5, .t), (10, .t), (11, .o), (12, .p), (13, .p), (14, .p), (15, .p), (16, .p), (17, .p), (18, .p), (19, .p), (21, .p), (22, .p), (23, .p), (24, .p), (20, .t), (25, .t), (26, .p), (27, .p), (28, .p)] [0, 0, 0, 6, 8, 16, 0, 0, 192, 256, 512, 1057, 2048, 4096, 12288, 20480, 32768, 32768, 229376, 294912, 557056, 32768, 32768, 6324224, 8421376, 16809984, 34635776, 67145728, 134221824] [0, 0, 0, 6, 8, 16, 0, 0, 192, 256, 512, 1057, 2048, 4096, 12288, 20480, 32768, 32768, 229376, 294912, 557056, 32768, 32768, 6324224, 8421376, 16809984, 34635776, 67145728, 134221824] Kt.hm rfl (by kernel_rfl) (fun w1 K => ?_)
    (repeat ((refine r_op ?_; refine r_pure hT rfl rfl rfl rfl rfl rfl ?_)))
    refine r_idx (row := x.row) hT rfl rfl rfl rfl rfl rfl rfl rfl rfl rfl rfl rfl (nn i) (by simp [hx]) ?_
    (repeat ((refine r_op ?_; refine r_pure hT rfl rfl rfl rfl rfl rfl ?_)))
    refine r_idx (row := x.row) hT rfl rfl rfl rfl rfl rfl rfl rfl rfl rfl rfl rfl (nn i) (by simp [hx]) ?_
    (repeat ((refine r_op ?_; first | refine r_pure hT rfl rfl rfl rfl rfl rfl ?_ | refine r_load hT rfl rfl rfl rfl rfl rfl rfl rfl rfl ?_)))
    refine r_call (rIn_ok a x.p x.b) rfl rfl rfl rfl rfl rfl rfl rfl Try.func26 rfl rfl rfl pB ?_
    rintro r S1 ⟨rfl, rfl⟩
    (repeat ((refine r_op ?_; refine r_pure hT rfl rfl rfl rfl rfl rfl ?_)))
    refine r_case (d := 26) rfl (fun c1 => ?_) (fun c1 => ?_)
    · rw [in_same] at c1
      rw [c1] at hst
      simp only at hst
      cases m with
      | none =>
        (repeat ((refine r_op ?_; refine r_pure hT rfl rfl rfl rfl rfl rfl ?_)))
        refine r_known (d := 29) (b := true) rfl (by rw [ltB_eq]; rfl) ?_
        (repeat (first | refine r_end ?_ | (refine r_op ?_; first | refine r_pure hT rfl rfl rfl rfl rfl rfl ?_ | refine r_off rfl rfl rfl rfl rfl ?_) | refine gi_plain ?_ | refine gi_inBlock ?_ | (refine gi_cnd ?_; first | refine gi_true rfl ?_ | refine gi_false rfl ?_)))
        exact on _ hst _ _ _ ⟨rfl, rfl, rfl, rfl, rfl, trivial⟩ ⟨rfl, trivial⟩ trivial
      | some q =>
        obtain ⟨j, y⟩ := q
        obtain ⟨hy, hj⟩ := hat j y rfl
        simp only at hst
        (repeat ((refine r_op ?_; refine r_pure hT rfl rfl rfl rfl rfl rfl ?_)))
        refine r_known (d := 29) (b := false) rfl (by rw [ltB_eq]; exact decide_eq_false (by show ¬ (j : Int) < 0; omega)) ?_
        (repeat ((refine r_op ?_; refine r_pure hT rfl rfl rfl rfl rfl rfl ?_)))
        refine r_idx (row := x.row) hT rfl rfl rfl rfl rfl rfl rfl rfl rfl rfl rfl rfl (nn i) (by simp [hx]) ?_
        (repeat ((refine r_op ?_; refine r_pure hT rfl rfl rfl rfl rfl rfl ?_)))
        refine r_idx (row := y.row) (j := (j : Int)) hT rfl rfl rfl rfl rfl rfl rfl rfl rfl rfl rfl rfl (nn j) (by simp [hy]) ?_
        (repeat (first | refine r_end ?_ | (refine r_op ?_; first | refine r_pure hT rfl rfl rfl rfl rfl rfl ?_ | refine r_load hT rfl rfl rfl rfl rfl rfl rfl rfl rfl ?_)))
        refine gi_cond rfl (fun c2 => ?_) (fun c2 => ?_)
        · rw [c2] at hst
          (repeat (first | refine r_end ?_ | (refine r_op ?_; refine r_pure hT rfl rfl rfl rfl rfl rfl ?_) | refine gi_plain ?_ | refine gi_inBlock ?_))
          exact on _ hst _ _ _ ⟨rfl, rfl, rfl, rfl, rfl, trivial⟩ ⟨rfl, trivial⟩ trivial
        · rw [c2] at hst
          (repeat (first | refine r_end ?_ | (refine r_op ?_; refine r_pure hT rfl rfl rfl rfl rfl rfl ?_) | refine gi_plain ?_ | refine gi_skip ?_ | refine gi_inBlock ?_))
          exact on _ hst _ _ _ ⟨rfl, rfl, rfl, rfl, rfl, trivial⟩ ⟨rfl, trivial⟩ trivial
    · rw [in_same] at c1
      rw [c1] at hst
      (repeat (first | refine r_end ?_ | (refine r_op ?_; first | refine r_pure hT rfl rfl rfl rfl rfl rfl ?_ | refine r_off rfl rfl rfl rfl rfl ?_) | refine gi_plain ?_ | refine gi_skip ?_ | refine gi_inBlock ?_ | (refine gi_cnd ?_; first | refine gi_true rfl ?_ | refine gi_false rfl ?_)))
      exact on _ hst _ _ _ ⟨rfl, rfl, rfl, rfl, rfl, trivial⟩ ⟨rfl, trivial⟩ trivial
  · rw [List.length_map] at h3
    have hil : i = l.length := by omega
    subst hil
    unfold findF
    have hat := fun j y h => fnd_at (l := l) (a := a) (i := l.length) (j := j) (x := y) h
    generalize fndN l a l.length = m at hat
    cases m with
    | none =>
      (repeat (first | refine r_end ?_ | (refine r_op ?_; refine r_pure hT rfl rfl rfl rfl rfl rfl ?_) | refine gi_seq ?_ | refine gi_plain ?_ | refine gi_exit rfl ?_))
      refine gi_known (d := 45) (b := true) rfl (by rw [ltB_eq]; rfl) ?_
      (repeat (first | refine r_end ?_ | (refine r_op ?_; first | refine r_pure hT rfl rfl rfl rfl rfl rfl ?_ | refine r_store hT rfl rfl rfl rfl rfl rfl rfl rfl rfl rfl ?_) | refine gi_seq ?_ | refine gi_plain ?_ | (refine gi_cnd ?_; first | refine gi_true rfl ?_ | refine gi_false rfl ?_)))
      refine gi_retW hT Try.func34 rfl rfl [] rfl rfl rfl rfl ?_
      exact ⟨rfl, rfl⟩
    | some q =>
      obtain ⟨j, y⟩ := q
      obtain ⟨hy, hj⟩ := hat j y rfl
      (repeat (first | refine r_end ?_ | (refine r_op ?_; refine r_pure hT rfl rfl rfl rfl rfl rfl ?_) | refine gi_seq ?_ | refine gi_plain ?_ | refine gi_exit rfl ?_))
      refine gi_known (d := 45) (b := false) rfl (by rw [ltB_eq]; exact decide_eq_false (by show ¬ (j : Int) < 0; omega)) ?_
      (repeat (first | (refine r_op ?_; refine r_pure hT rfl rfl rfl rfl rfl rfl ?_) | refine gi_seq ?_ | refine gi_plain ?_ | refine gi_skip ?_ | (refine gi_cnd ?_; first | refine gi_true rfl ?_ | refine gi_false rfl ?_)))
      refine r_idx (row := y.row) (j := (j : Int)) hT rfl rfl rfl rfl rfl rfl rfl rfl rfl rfl rfl rfl (nn j) (by simp [hy]) ?_
      (repeat (first | refine r_end ?_ | (refine r_op ?_; first | refine r_pure hT rfl rfl rfl rfl rfl rfl ?_ | refine r_load hT rfl rfl rfl rfl rfl rfl rfl rfl rfl ?_ | refine r_store hT rfl rfl rfl rfl rfl rfl rfl rfl rfl rfl ?_)))
      refine gi_retW hT Try.func34 rfl rfl [] rfl rfl rfl rfl ?_
      exact ⟨rfl, rfl⟩
end Go.Proofs.Ytmocggibcniggaa.Kt
namespace Go.Proofs.Ytmocggibcniggaa.Kt
open Go Kw Go.Proofs
attribute [local irreducible] Kw.GI Kw.GR Kw.FnR Kw.FnX Kw.FnI
set_option maxHeartbeats 16000000
set_option maxRecDepth 100000
theorem tre_of {l : List Ls} (hf : Few l) (v : Vt) : Tre (refTree (mapL l) v) := by
  by_cases hv : v ∈ (mapL l).vs
  · exact (tr_of hf hv).tre
  · unfold refTree
    rw [show (mapL l).vs.any (fun x => decide (x = v)) = false from ?_]
    · exact tre_nil
    · rw [← Bool.not_eq_true, List.any_eq_true]
      rintro ⟨y, hy, he⟩
      exact hv (of_decide_eq_true he ▸ hy)
/-- What is told of a router. -/
abbrev rawL (l : List Ls) (self : Int) : List Rt := rawR (mapL l) (refTree (mapL l) ⟨1, self⟩)
theorem RoutesL (l : List Ls) (self : Int) (hf : Few l) : FnX Try.prog 30 [avMf (mapL l), I self] [] [] (RRts (rawL l self)) := Routes_ok l self hf (tre_of hf ⟨1, self⟩)
theorem pRts {L : List Rt} : ∀ r H1 S1, RRts L r H1 S1 → stA r = true ∧ StH H1 ∧ StS S1 := by
  rintro r H S ⟨rfl, rfl, L', rfl, _⟩
  exact ⟨stLL_Rt L', StH.nil, stS_nil⟩
theorem rtOk_nil {L : List Rt} (h : RtOk [] L) : L = [] := by
  obtain ⟨q, h1, _, rfl⟩ := h
  have : q = [] := List.eq_nil_of_length_eq_zero h1.len
  subst this
  rfl
theorem rtOk_one {x : Rt} {L : List Rt} (h : RtOk [x] L) : L = [x] := by
  obtain ⟨q, h1, _, rfl⟩ := h
  have hl : q.length = 1 := h1.len
  match q, hl, h1 with
  | [y], _, h1 =>
    have := (h1.stb.mem (x := y)).1 (List.mem_singleton.2 rfl)
    rw [List.mem_singleton.1 this]
    exact cpN_one rfl
theorem raw0 : rawL l0 1 = [⟨51456, 24, 1, 0, 0⟩] := by kernel_rfl
theorem few_nil : Few [] := ⟨Nat.zero_le _, fun x h => (nomatch h), fun x h => (nomatch h)⟩
theorem CL_mapN {E : Env} {w : World} {us : List Value} {s : Int} (h : CL E w [.agg [nilA, nilA, nilA, nilA, nilA], I s] us) : CL E w [avMf (mapL []), I s] us := by
  unfold CL at h ⊢
  obtain ⟨u, r, rfl, h1, h2⟩ := h
  refine ⟨u, r, rfl, ?_, h2⟩
  unfold C at h1 ⊢
  obtain ⟨vs, rfl, h3, h4⟩ := h1
  refine ⟨vs, rfl, ?_, h4⟩
  have a1 := CL_setx (x := nilA) (y := .r (.fs 2 [])) (j := 0) (fun u hu => C_nil_fs hu) rfl h3
  have a2 := CL_setx (x := nilA) (y := .r (.fs 6 [])) (j := 1) (fun u hu => C_nil_fs hu) rfl a1
  have a3 := CL_setx (x := nilA) (y := .r (.fs 4 [])) (j := 2) (fun u hu => C_nil_fs hu) rfl a2
  have a4 := CL_setx (x := nilA) (y := .r (.fs 4 [])) (j := 3) (fun u hu => C_nil_fs hu) rfl a3
  exact CL_setx (x := nilA) (y := .r (.fs 1 [])) (j := 4) (fun u hu => C_nil_fs hu) rfl a4
theorem Routes0 (s : Int) : FnX Try.prog 30 [.agg [nilA, nilA, nilA, nilA, nilA], I s] [] [] (RRts (rawL [] s)) :=
  fnX_args (RoutesL [] s few_nil) (fun _ _ _ h => CL_mapN h)
theorem awake19_ok : FnR Try.prog 32 [] (RB true) := by
  refine fnR_intro (T := TT) (n := 21) Try.func32 rfl rfl rfl (fun w Z => ?_)
  (repeat (first | refine r_end ?_ | (refine r_op ?_; refine r_pure hT rfl rfl rfl rfl rfl rfl ?_) | refine gi_seq ?_ | refine gi_plain ?_))
  refine r_callX [] [] (Graph0n) rfl rfl rfl rfl rfl rfl Try.func28 rfl rfl rfl rfl rfl rfl rfl p0G ?_
  rintro r H1 S1 ⟨rfl, rfl, rfl⟩
  refine r_freeze 0 rfl (frz_seO l0) ?_
  skip
  refine r_call (MapF l0 few0) rfl rfl rfl rfl rfl rfl rfl rfl Try.func15 rfl rfl rfl pMapP ?_
  rintro r S1 ⟨rfl, rfl⟩
  refine r_freeze 1 (L' := (mapL l0).vs.map Vt.row) rfl rfl ?_
  refine r_freeze 2 (L' := (mapL l0).es.map Eg.row) rfl rfl ?_
  refine r_freeze 3 (L' := (mapL l0).sb.map Sb.row) rfl rfl ?_
  refine r_freeze 4 (L' := (mapL l0).sn.map Sn.row) rfl rfl ?_
  refine r_freeze 5 (L' := (mapL l0).wl.map nRow) rfl rfl ?_
  skip
  refine r_callX [] [] (RoutesL l0 1 few0) rfl rfl rfl rfl rfl rfl Try.func30 rfl rfl rfl rfl rfl rfl rfl pRts ?_
  rintro r H1 S1 ⟨rfl, rfl, L1, rfl, hL1⟩
  rw [raw0] at hL1
  have := rtOk_one hL1
  subst this
  (repeat (first | refine r_end ?_ | (refine r_op ?_; refine r_pure hT rfl rfl rfl rfl rfl rfl ?_) | refine gi_seq ?_ | refine gi_plain ?_))
  refine r_callX [] [] (Routes0 1) rfl rfl rfl rfl rfl rfl Try.func30 rfl rfl rfl rfl rfl rfl rfl pRts ?_
  rintro r H1 S1 ⟨rfl, rfl, L2, rfl, hL2⟩
  have := rtOk_nil hL2
  subst this
  (repeat ((refine r_op ?_; refine r_pure hT rfl rfl rfl rfl rfl rfl ?_)))
  refine r_known (d := 9) (b := true) rfl (by rw [eqB_eq]; rfl) ?_
  (repeat ((refine r_op ?_; refine r_pure hT rfl rfl rfl rfl rfl rfl ?_)))
  refine r_known (d := 14) (b := true) rfl (by rw [eqB_eq]; rfl) ?_
  (repeat ((refine r_op ?_; refine r_pure hT rfl rfl rfl rfl rfl rfl ?_)))
  refine r_thaw 15 rfl ?_
  refine r_idx (row := (⟨51456, 24, 1, 0, 0⟩ : Rt).row) hT rfl rfl rfl rfl rfl rfl rfl rfl rfl rfl rfl rfl (by decide) (by rfl) ?_
  (repeat (first | refine r_end ?_ | (refine r_op ?_; first | refine r_pure hT rfl rfl rfl rfl rfl rfl ?_ | refine r_load hT rfl rfl rfl rfl rfl rfl rfl rfl rfl ?_)))
  refine gi_retW hT Try.func32 rfl rfl [] rfl rfl rfl rfl ?_
  exact ⟨by rw [eqB_eq]; rfl, rfl⟩
theorem y_flat_Rt : flatK Try.prog 67 = some [some .i64, some .i64, some .i64, some .i64, some .i64] := by kernel_rfl
theorem rtEq_self (x : Rt) : notB (eqB x.p x.p && (eqB x.b x.b && (eqB x.c x.c && (eqB x.o x.o && (eqB x.n x.n && true))))) = false := by
  rw [notB_eq, eqB_eq, eqB_eq, eqB_eq, eqB_eq, eqB_eq]; simp
theorem Same_ok (l : List Rt) (hl : l.length < 100000000) : FnR Try.prog 29 [rsRt l, rsRt l] (RB true) := by
  refine fnR_intro (T := TT) (n := 26) Try.func29 rfl rfl rfl (fun w Z => ?_)
  (repeat (first | refine r_end ?_ | (refine r_op ?_; refine r_pure hT rfl rfl rfl rfl rfl rfl ?_) | refine gi_seq ?_ | refine gi_plain ?_))
  refine gi_known (d := 10) (b := false) rfl (by rw [notB_eq, eqB_eq]; simp) ?_
  (repeat (first | refine r_end ?_ | (refine r_op ?_; refine r_pure hT rfl rfl rfl rfl rfl rfl ?_) | refine gi_seq ?_ | refine gi_plain ?_ | refine gi_skip ?_ | refine gi_block ?_ | (refine gi_cnd ?_; first | refine gi_true rfl ?_ | refine gi_false rfl ?_)))
  refine gi_loop (σ := Nat) (fun j => [(5, I (j : Int)), (1, rsRt l), (0, rsRt l)]) (fun _ => []) (fun _ => []) (fun j => j ≤ l.length) (fun j => l.length - j) 0 (Nat.zero_le _) ⟨rfl, rfl, rfl, trivial⟩ trivial trivial (fun _ => rfl) (fun j hj next => ?_)
  have hj : j ≤ l.length := hj
  (repeat (first | refine r_end ?_ | (refine r_op ?_; refine r_pure hT rfl rfl rfl rfl rfl rfl ?_) | refine gi_seq ?_ | refine gi_plain ?_))
  refine gi_lt (p := (j : Int)) (q := ((l.map Rt.row).length : Int)) rfl (fun h3 => ?_) (fun h3 => ?_)
  · rw [List.length_map] at h3
    obtain ⟨x, hx⟩ : ∃ x, l[j]? = some x := ⟨_, List.getElem?_eq_getElem (by omega)⟩
    (repeat (first | refine gi_seq ?_ | refine gi_skip ?_ | refine gi_block ?_))
    refine gi_drawM [] [(0, .p), (1, .p), (2, .p), (4, .p), (5, .p), (6, .p), (3, .t), (7, .t), (8, .p)] [0, 0, 3, 4, 0, 0, 48, 64, 136] [0, 0, 3, 4, 0, 0, 48, 64, 136] Kt.hm rfl (by kernel_rfl) (fun w1 K => ?_)
    (repeat ((refine r_op ?_; refine r_pure hT rfl rfl rfl rfl rfl rfl ?_)))
    refine r_idx (row := x.row) hT rfl rfl rfl rfl rfl rfl rfl rfl rfl rfl rfl rfl (nn j) (by simp [hx]) ?_
    (repeat ((refine r_op ?_; refine r_pure hT rfl rfl rfl rfl rfl rfl ?_)))
    refine r_idx (row := x.row) hT rfl rfl rfl rfl rfl rfl rfl rfl rfl rfl rfl rfl (nn j) (by simp [hx]) ?_
    (repeat ((refine r_op ?_; refine r_load hT rfl rfl rfl rfl rfl rfl rfl rfl rfl ?_)))
    refine r_neT _ rfl rfl rfl rfl rfl rfl rfl rfl rfl y_flat_Rt ?_
    (repeat (refine r_end ?_))
    refine gi_known (d := 25) (b := false) rfl (rtEq_self x) ?_
    (repeat (first | refine r_end ?_ | (refine r_op ?_; refine r_pure hT rfl rfl rfl rfl rfl rfl ?_) | refine gi_plain ?_ | refine gi_skip ?_ | refine gi_inBlock ?_ | (refine gi_cnd ?_; first | refine gi_true rfl ?_ | refine gi_false rfl ?_)))
    refine next (j + 1) _ _ _ (by omega) (by omega) ⟨?_, rfl, rfl, trivial⟩ trivial trivial
    show some (I (wr .i64 ((j : Int) + 1))) = _
    rw [wadd1 (by omega)]
  · (repeat (first | refine r_end ?_ | (refine r_op ?_; refine r_pure hT rfl rfl rfl rfl rfl rfl ?_) | refine gi_seq ?_ | refine gi_plain ?_ | refine gi_exit rfl ?_))
    refine gi_retW hT Try.func29 rfl rfl [] rfl rfl rfl rfl ?_
    exact ⟨rfl, rfl⟩
end Go.Proofs.Ytmocggibcniggaa.Kt
namespace Go.Proofs.Ytmocggibcniggaa.Kt
open Go Kw Go.Proofs
set_option maxHeartbeats 4000000
set_option maxRecDepth 100000
/-! ### of each net the best: two ways to the same list -/
def pbL (x y : Rt) : Prop := x.p < y.p ∨ (x.p = y.p ∧ x.b < y.b)
instance (x y : Rt) : Decidable (pbL x y) := by unfold pbL; exact inferInstance
def pbE (x y : Rt) : Prop := x.p = y.p ∧ x.b = y.b
instance (x y : Rt) : Decidable (pbE x y) := by unfold pbE; exact inferInstance
def insT : List Rt → Rt → List Rt
  | [], r => [r]
  | x :: l, r => if pbL x r then x :: insT l r else if pbE x r then (if r.c < x.c then r :: l else x :: l) else r :: x :: l
def refR (L : List Rt) : List Rt := L.foldl insT []
theorem refR_snoc (L : List Rt) (r : Rt) : refR (L ++ [r]) = insT (refR L) r := by unfold refR; rw [List.foldl_append]; rfl
theorem insT_at {r : Rt} : ∀ {l : List Rt} {a : Nat}, a ≤ l.length → (∀ (i : Nat) x, i < a → l[i]? = some x → pbL x r) → (∀ x, l[a]? = some x → ¬ pbL x r) → insT l r = match l[a]? with
    | some x => if pbE x r then (if r.c < x.c then l.set a r else l) else l.take a ++ r :: l.drop a
    | none => l.take a ++ r :: l.drop a
  | [], a, h, _, _ => by
    have : a = 0 := by simpa using h
    subst this; rfl
  | x :: l, 0, _, _, h2 => by
    have := h2 x rfl
    unfold insT
    rw [if_neg this]
    rfl
  | x :: l, a + 1, h, h1, h2 => by
    have hx := h1 0 x (by omega) rfl
    have ih := insT_at (r := r) (l := l) (a := a) (by simpa using h) (fun i y hi hy => h1 (i + 1) y (by omega) (by simpa using hy)) (fun y hy => h2 y (by simpa using hy))
    unfold insT
    rw [if_pos hx, ih]
    rw [List.getElem?_cons_succ, List.take_succ_cons, List.drop_succ_cons]
    cases l[a]? with
    | none => rfl
    | some y =>
      simp only
      by_cases c1 : pbE y r
      · rw [if_pos c1, if_pos c1]
        by_cases c2 : r.c < y.c
        · rw [if_pos c2, if_pos c2]; rfl
        · rw [if_neg c2, if_neg c2]
      · rw [if_neg c1, if_neg c1]; rfl
theorem insT_len (r : Rt) : ∀ (l : List Rt), (insT l r).length ≤ l.length + 1
  | [] => by simp [insT]
  | x :: l => by
    have := insT_len r l
    unfold insT
    split
    · simp only [List.length_cons]; omega
    · split
      · split <;> simp
      · simp
theorem refR_len : ∀ (L : List Rt), (refR L).length ≤ L.length := by
  have key : ∀ (L M : List Rt), (L.foldl insT M).length ≤ M.length + L.length := by
    intro L
    induction L with
    | nil => intro M; simp
    | cons r L ih =>
      intro M
      rw [List.foldl_cons]
      have := ih (insT M r)
      have := insT_len r M
      rw [List.length_cons]
      omega
  intro L
  have := key L []
  simpa [refR] using this
theorem pbL_tr {x y z : Rt} (h : pbL x y) (h' : pbL y z) : pbL x z := by unfold pbL at *; omega
theorem pbL_irr (x : Rt) : ¬ pbL x x := by unfold pbL; omega
theorem pb_tri {x y : Rt} (h : ¬ pbL x y) (h' : ¬ pbE x y) : pbL y x := by unfold pbL pbE at *; omega
theorem pbE_L {x y z : Rt} (h : pbE x y) (h' : pbL x z) : pbL y z := by unfold pbL pbE at *; omega
theorem pbE_L' {x y z : Rt} (h : pbE x y) (h' : pbL z x) : pbL z y := by unfold pbL pbE at *; omega
theorem pbE_no {x y : Rt} (h : pbE x y) : ¬ pbL x y := by unfold pbL pbE at *; omega
theorem pbE_sy {x y : Rt} (h : pbE x y) : pbE y x := ⟨h.1.symm, h.2.symm⟩
/-- What is in the list behind an insertion. -/
theorem insT_mem {r : Rt} : ∀ {l : List Rt}, l.Pairwise pbL → ∀ {x : Rt}, x ∈ insT l r ↔ (x = r ∧ ∀ y ∈ l, pbE y r → r.c < y.c) ∨ (x ∈ l ∧ ¬ (pbE x r ∧ r.c < x.c))
  | [], _, x => by simp [insT]
  | z :: l, h, x => by
    rw [List.pairwise_cons] at h
    obtain ⟨hz, hl⟩ := h
    unfold insT
    by_cases c1 : pbL z r
    · rw [if_pos c1, List.mem_cons, insT_mem hl, List.mem_cons]
      have hzr : ¬ pbE z r := fun e => pbE_no e c1
      constructor
      · rintro (rfl | ⟨rfl, h1⟩ | ⟨h1, h2⟩)
        · exact .inr ⟨.inl rfl, fun h => hzr h.1⟩
        · refine .inl ⟨rfl, fun y hy he => ?_⟩
          rcases List.mem_cons.1 hy with rfl | hy
          · exact absurd he hzr
          · exact h1 y hy he
        · exact .inr ⟨.inr h1, h2⟩
      · rintro (⟨rfl, h1⟩ | ⟨rfl | h1, h2⟩)
        · exact .inr (.inl ⟨rfl, fun y hy => h1 y (List.mem_cons_of_mem _ hy)⟩)
        · exact .inl rfl
        · exact .inr (.inr ⟨h1, h2⟩)
    · rw [if_neg c1]
      have hno : ∀ y ∈ l, pbE z r → ¬ pbE y r := fun y hy e e' => by
        have := hz y hy
        unfold pbL pbE at *; omega
      by_cases c2 : pbE z r
      · rw [if_pos c2]
        by_cases c3 : r.c < z.c
        · rw [if_pos c3, List.mem_cons, List.mem_cons]
          constructor
          · rintro (rfl | h1)
            · refine .inl ⟨rfl, fun y hy he => ?_⟩
              rcases List.mem_cons.1 hy with rfl | hy
              · exact c3
              · exact absurd he (hno y hy c2)
            · exact .inr ⟨.inr h1, fun h => hno x h1 c2 h.1⟩
          · rintro (⟨rfl, _⟩ | ⟨rfl | h1, h2⟩)
            · exact .inl rfl
            · exact absurd ⟨c2, c3⟩ h2
            · exact .inr h1
        · rw [if_neg c3, List.mem_cons]
          constructor
          · rintro (rfl | h1)
            · exact .inr ⟨.inl rfl, fun h => c3 h.2⟩
            · exact .inr ⟨.inr h1, fun h => hno x h1 c2 h.1⟩
          · rintro (⟨rfl, h1⟩ | ⟨h1, h2⟩)
            · exact absurd (h1 z (List.mem_cons_self ..) c2) c3
            · exact h1
      · rw [if_neg c2, List.mem_cons, List.mem_cons]
        have hall : ∀ y, y = z ∨ y ∈ l → ¬ pbE y r := fun y hy e => by
          have hrz := pb_tri c1 c2
          rcases hy with rfl | hy
          · exact c2 e
          · have := hz y hy
            unfold pbL pbE at *; omega
        constructor
        · rintro (rfl | h1)
          · exact .inl ⟨rfl, fun y hy e => absurd e (hall y (List.mem_cons.1 hy))⟩
          · exact .inr ⟨h1, fun h => hall x h1 h.1⟩
        · rintro (⟨rfl, _⟩ | ⟨h1, _⟩)
          · exact .inl rfl
          · exact .inr h1
theorem insT_pw {r : Rt} : ∀ {l : List Rt}, l.Pairwise pbL → (insT l r).Pairwise pbL
  | [], _ => by simp [insT]
  | z :: l, h => by
    have h0 := h
    rw [List.pairwise_cons] at h
    obtain ⟨hz, hl⟩ := h
    unfold insT
    by_cases c1 : pbL z r
    · rw [if_pos c1, List.pairwise_cons]
      refine ⟨fun y hy => ?_, insT_pw hl⟩
      rcases (insT_mem hl).1 hy with ⟨rfl, _⟩ | ⟨hy, _⟩
      · exact c1
      · exact hz y hy
    · rw [if_neg c1]
      by_cases c2 : pbE z r
      · rw [if_pos c2]
        split
        · rw [List.pairwise_cons]
          exact ⟨fun y hy => pbE_L c2 (hz y hy), hl⟩
        · exact h0
      · rw [if_neg c2, List.pairwise_cons]
        refine ⟨fun y hy => ?_, h0⟩
        have hrz := pb_tri c1 c2
        rcases List.mem_cons.1 hy with rfl | hy
        · exact hrz
        · exact pbL_tr hrz (hz y hy)
/-- The best of its net: the first of those that cost the least. -/
structure Best (L : List Rt) (x : Rt) : Prop where
  le : ∀ y ∈ L, pbE y x → x.c ≤ y.c
  hd : (L.filter (fun y => decide (y.key = x.key))).head? = some x
theorem Best.mem {L : List Rt} {x : Rt} (h : Best L x) : x ∈ L := by
  have := List.mem_of_mem_head? h.hd
  exact (List.mem_filter.1 this).1
theorem key_pb {x y : Rt} (h : x.key = y.key) : pbE x y ∧ x.c = y.c := by
  unfold Rt.key at h
  simp only [Prod.mk.injEq] at h
  exact ⟨⟨h.1, h.2.1⟩, h.2.2⟩
theorem key_of {x y : Rt} (h : pbE x y) (h' : x.c = y.c) : x.key = y.key := by unfold Rt.key; rw [h.1, h.2, h']
theorem best_snoc {L : List Rt} {r x : Rt} : Best (L ++ [r]) x ↔ (x = r ∧ ∀ y ∈ L, pbE y r → r.c < y.c) ∨ (Best L x ∧ ¬ (pbE x r ∧ r.c < x.c)) := by
  constructor
  · rintro ⟨h1, h2⟩
    rw [List.filter_append, List.head?_append] at h2
    cases hh : (L.filter (fun y => decide (y.key = x.key))).head? with
    | some z =>
      rw [hh] at h2
      cases h2
      refine .inr ⟨⟨fun y hy => h1 y (List.mem_append_left _ hy), hh⟩, fun h => ?_⟩
      have := h1 r (List.mem_append_right _ (List.mem_singleton.2 rfl)) (pbE_sy h.1)
      omega
    | none =>
      rw [hh] at h2
      rw [List.head?_eq_none_iff] at hh
      have hne : ∀ y ∈ L, y.key ≠ x.key := fun y hy e => by
        have : y ∈ L.filter (fun y => decide (y.key = x.key)) := List.mem_filter.2 ⟨hy, decide_eq_true e⟩
        rw [hh] at this; cases this
      have h2 : ([r].filter (fun y => decide (y.key = x.key))).head? = some x := h2
      have hxr : x = r := by
        by_cases e : r.key = x.key
        · rw [List.filter_cons_of_pos (by simpa using e)] at h2
          exact (Option.some.inj h2).symm
        · rw [List.filter_cons_of_neg (by simpa using e)] at h2
          cases h2
      refine .inl ⟨hxr, fun y hy he => ?_⟩
      subst hxr
      have h3 := h1 y (List.mem_append_left _ hy) he
      rcases Int.lt_or_eq_of_le h3 with h4 | h4
      · exact h4
      · exact absurd (key_of he h4.symm) (hne y hy)
  · rintro (⟨rfl, h1⟩ | ⟨⟨h1, h2⟩, h3⟩)
    · refine ⟨fun y hy he => ?_, ?_⟩
      · rcases List.mem_append.1 hy with hy | hy
        · have := h1 y hy he; omega
        · rw [List.mem_singleton.1 hy]; exact Int.le_refl _
      · have : L.filter (fun y => decide (y.key = x.key)) = [] := by
          rw [List.filter_eq_nil_iff]
          intro y hy
          rw [decide_eq_true_iff]
          intro e
          obtain ⟨e1, e2⟩ := key_pb e
          have := h1 y hy e1
          omega
        rw [List.filter_append, this]
        simp
    · refine ⟨fun y hy he => ?_, ?_⟩
      · rcases List.mem_append.1 hy with hy | hy
        · exact h1 y hy he
        · rw [List.mem_singleton.1 hy] at he ⊢
          rcases Int.lt_or_le r.c x.c with h | h
          · exact absurd ⟨pbE_sy he, h⟩ h3
          · exact h
      · rw [List.filter_append, List.head?_append, h2]; rfl
theorem best_ex : ∀ (L : List Rt) (y : Rt), y ∈ L → ∃ z, Best L z ∧ pbE z y ∧ z.c ≤ y.c := by
  have key : ∀ (n : Nat) (L : List Rt), L.length = n → ∀ y ∈ L, ∃ z, Best L z ∧ pbE z y ∧ z.c ≤ y.c := by
    intro n
    induction n with
    | zero => intro L hL y hy; rw [List.eq_nil_of_length_eq_zero hL] at hy; cases hy
    | succ n ih =>
      intro L hL y hy
      obtain ⟨M, r, rfl⟩ : ∃ M r, L = M ++ [r] := ⟨L.dropLast, L.getLast (by intro e; rw [e] at hL; cases hL), (List.dropLast_concat_getLast _).symm⟩
      have hM : M.length = n := by rw [List.length_append, List.length_singleton] at hL; omega
      by_cases hall : ∀ z ∈ M, pbE z r → r.c < z.c
      · by_cases hyr : pbE r y
        · refine ⟨r, best_snoc.2 (.inl ⟨rfl, hall⟩), hyr, ?_⟩
          rcases List.mem_append.1 hy with hy | hy
          · have := hall y hy (pbE_sy hyr); omega
          · rw [List.mem_singleton.1 hy]; exact Int.le_refl _
        · have hyM : y ∈ M := by
            rcases List.mem_append.1 hy with hy | hy
            · exact hy
            · rw [List.mem_singleton.1 hy] at hyr; exact absurd ⟨rfl, rfl⟩ hyr
          obtain ⟨z, h1, h2, h3⟩ := ih M hM y hyM
          refine ⟨z, best_snoc.2 (.inr ⟨h1, fun h => hyr ?_⟩), h2, h3⟩
          have := h.1
          unfold pbE at *; omega
      · obtain ⟨w, hw⟩ : ∃ w, w ∈ M ∧ pbE w r ∧ ¬ r.c < w.c := by
          rcases Classical.em (∃ w, w ∈ M ∧ pbE w r ∧ ¬ r.c < w.c) with h | h
          · exact h
          · exact absurd (fun z hz he => Classical.byContradiction fun hc => h ⟨z, hz, he, hc⟩) hall
        obtain ⟨hw1, hw2, hw3⟩ := hw
        have hyc : ∃ u ∈ M, pbE u y ∧ u.c ≤ y.c := by
          rcases List.mem_append.1 hy with hy | hy
          · exact ⟨y, hy, ⟨rfl, rfl⟩, Int.le_refl _⟩
          · rw [List.mem_singleton.1 hy]; exact ⟨w, hw1, hw2, by omega⟩
        obtain ⟨u, hu1, hu2, hu3⟩ := hyc
        obtain ⟨z, h1, h2, h3⟩ := ih M hM u hu1
        refine ⟨z, best_snoc.2 (.inr ⟨h1, fun h => ?_⟩), ⟨h2.1.trans hu2.1, h2.2.trans hu2.2⟩, by omega⟩
        have := h1.le w hw1 ⟨hw2.1.trans h.1.1.symm, hw2.2.trans h.1.2.symm⟩
        omega
  exact fun L y hy => key L.length L rfl y hy
/-- A list of the best ones, in order. -/
structure Told (L M : List Rt) : Prop where
  pw : M.Pairwise pbL
  mem : ∀ x, x ∈ M ↔ Best L x
theorem Told.nil : Told [] [] := ⟨List.Pairwise.nil, fun x => ⟨fun h => (nomatch h), fun h => h.mem⟩⟩
theorem Told.snoc {L M : List Rt} (h : Told L M) (r : Rt) : Told (L ++ [r]) (insT M r) := by
  refine ⟨insT_pw h.pw, fun x => ?_⟩
  rw [insT_mem h.pw, best_snoc, h.mem]
  have : (∀ y ∈ M, pbE y r → r.c < y.c) ↔ (∀ y ∈ L, pbE y r → r.c < y.c) := by
    constructor
    · intro hh y hy he
      obtain ⟨z, h1, h2, h3⟩ := best_ex L y hy
      have := hh z ((h.mem z).2 h1) ⟨h2.1.trans he.1, h2.2.trans he.2⟩
      omega
    · intro hh y hy he
      exact hh y ((h.mem y).1 hy).mem he
  rw [this]
theorem told_ref : ∀ (L : List Rt), Told L (refR L) := by
  have key : ∀ (n : Nat) (L : List Rt), L.length = n → Told L (refR L) := by
    intro n
    induction n with
    | zero => intro L hL; rw [List.eq_nil_of_length_eq_zero hL]; exact Told.nil
    | succ n ih =>
      intro L hL
      obtain ⟨M, r, rfl⟩ : ∃ M r, L = M ++ [r] := ⟨L.dropLast, L.getLast (by intro e; rw [e] at hL; cases hL), (List.dropLast_concat_getLast _).symm⟩
      have hM : M.length = n := by rw [List.length_append, List.length_singleton] at hL; omega
      rw [refR_snoc]
      exact (ih M hM).snoc r
  exact fun L => key L.length L rfl
theorem pw_eq : ∀ {l m : List Rt}, l.Pairwise pbL → m.Pairwise pbL → (∀ x, x ∈ l ↔ x ∈ m) → l = m
  | [], [], _, _, _ => rfl
  | [], y :: m, _, _, h => absurd ((h y).2 (List.mem_cons_self ..)) (fun h => (nomatch h))
  | x :: l, [], _, _, h => absurd ((h x).1 (List.mem_cons_self ..)) (fun h => (nomatch h))
  | x :: l, y :: m, hl, hm, h => by
    rw [List.pairwise_cons] at hl hm
    have hxy : x = y := by
      rcases List.mem_cons.1 ((h x).1 (List.mem_cons_self ..)) with e | h1
      · exact e
      · rcases List.mem_cons.1 ((h y).2 (List.mem_cons_self ..)) with e | h2
        · exact e.symm
        · exact absurd (pbL_tr (hl.1 y h2) (hm.1 x h1)) (pbL_irr x)
    subst hxy
    refine congrArg (x :: ·) (pw_eq hl.2 hm.2 (fun z => ?_))
    have hz := h z
    rw [List.mem_cons, List.mem_cons] at hz
    constructor
    · intro h1
      rcases hz.1 (.inr h1) with rfl | h2
      · exact absurd (hl.1 z h1) (pbL_irr z)
      · exact h2
    · intro h1
      rcases hz.2 (.inr h1) with rfl | h2
      · exact absurd (hm.1 z h1) (pbL_irr z)
      · exact h2
theorem Told.uniq {L M N : List Rt} (h : Told L M) (h' : Told L N) : M = N := pw_eq h.pw h'.pw (fun x => (h.mem x).trans (h'.mem x).symm)
/-! what is left of a sorted list -/
theorem eqRt_iff {x y : Rt} : eqRt x y = true ↔ pbE x y := by
  unfold eqRt pbE
  rw [Bool.and_eq_true, eqB_eq, eqB_eq]
  simp
theorem cpN_snoc {l : List Rt} {i : Nat} {y : Rt} (hy : l[i]? = some y) : cpN l (i + 1) = if i = 0 ∨ (∀ x, l[i - 1]? = some x → ¬ pbE y x) then cpN l i ++ [y] else cpN l i := by
  cases i with
  | zero => rw [if_pos (.inl rfl), cpN_one hy]; rfl
  | succ i =>
    obtain ⟨x, hx⟩ : ∃ x, l[i]? = some x := ⟨_, List.getElem?_eq_getElem (by have := (List.getElem?_eq_some_iff.1 hy).1; omega)⟩
    rw [cpN_eq hx hy]
    by_cases c : pbE y x
    · rw [if_neg (by rw [eqRt_iff.2 c]; decide), if_neg (fun h => by
        rcases h with h | h
        · omega
        · exact h x (by rw [show i + 1 - 1 = i by omega]; exact hx) c)]
    · rw [if_pos (by cases he : eqRt y x with
        | false => rfl
        | true => exact absurd (eqRt_iff.1 he) c), if_pos (.inr (fun z hz => by rw [show i + 1 - 1 = i by omega, hx] at hz; cases hz; exact c))]
theorem srt_le {l : List Rt} (hs : Srt 0 l.length l) {i j : Nat} {x y : Rt} (hij : i ≤ j) (hx : l[i]? = some x) (hy : l[j]? = some y) : ¬ kLt y x := hs.at (Nat.zero_le _) hij (List.getElem?_eq_some_iff.1 hy).1 hx hy
theorem kLe_pb {x y : Rt} (h : ¬ kLt y x) (h' : ¬ pbE y x) : pbL x y := by unfold kLt pbE pbL at *; omega
theorem kLe_c {x y : Rt} (h : ¬ kLt y x) (h' : pbE y x) : x.c ≤ y.c := by unfold kLt pbE at *; omega
/-- What the first i leave: those that are the first of their net. -/
theorem cpN_mem {l : List Rt} (hs : Srt 0 l.length l) : ∀ {i : Nat}, i ≤ l.length → (cpN l i).Pairwise pbL ∧ (∀ x, x ∈ cpN l i ↔ ∃ j : Nat, j < i ∧ l[j]? = some x ∧ ∀ (u : Nat) y, u < j → l[u]? = some y → ¬ pbE y x)
  | 0, _ => ⟨List.Pairwise.nil, fun x => ⟨fun h => (nomatch h), fun ⟨j, h, _⟩ => absurd h (Nat.not_lt_zero _)⟩⟩
  | i + 1, hi => by
    obtain ⟨y, hy⟩ : ∃ y, l[i]? = some y := ⟨_, List.getElem?_eq_getElem (by omega)⟩
    obtain ⟨h1, h2⟩ := cpN_mem hs (i := i) (by omega)
    rw [cpN_snoc hy]
    by_cases c : i = 0 ∨ (∀ x, l[i - 1]? = some x → ¬ pbE y x)
    · rw [if_pos c]
      have hfirst : ∀ (u : Nat) z, u < i → l[u]? = some z → pbL z y := fun u z hu hz => by
        rcases c with c | c
        · omega
        · obtain ⟨x, hx⟩ : ∃ x, l[i - 1]? = some x := ⟨_, List.getElem?_eq_getElem (by omega)⟩
          have a1 := kLe_pb (srt_le hs (show i - 1 ≤ i by omega) hx hy) (c x hx)
          have a2 := srt_le hs (show u ≤ i - 1 by omega) hz hx
          by_cases e : pbE x z
          · exact pbE_L e a1
          · exact pbL_tr (kLe_pb a2 e) a1
      refine ⟨List.pairwise_append.2 ⟨h1, List.pairwise_singleton _ _, fun a ha b hb => ?_⟩, fun x => ?_⟩
      · rw [List.mem_singleton.1 hb]
        obtain ⟨j, hj, hja, _⟩ := (h2 a).1 ha
        exact hfirst j a hj hja
      · rw [List.mem_append, List.mem_singleton, h2]
        constructor
        · rintro (⟨j, q1, q2, q3⟩ | rfl)
          · exact ⟨j, by omega, q2, q3⟩
          · exact ⟨i, by omega, hy, fun u z hu hz e => pbE_no e (hfirst u z hu hz)⟩
        · rintro ⟨j, q1, q2, q3⟩
          rcases Nat.lt_succ_iff_lt_or_eq.1 q1 with q1 | rfl
          · exact .inl ⟨j, q1, q2, q3⟩
          · rw [hy] at q2; cases q2; exact .inr rfl
    · rw [if_neg c]
      refine ⟨h1, fun x => ?_⟩
      rw [h2]
      constructor
      · rintro ⟨j, q1, q2⟩; exact ⟨j, by omega, q2⟩
      · rintro ⟨j, q1, q2, q3⟩
        rcases Nat.lt_succ_iff_lt_or_eq.1 q1 with q1 | rfl
        · exact ⟨j, q1, q2, q3⟩
        · refine absurd (.inr (fun z hz e => ?_)) c
          rw [hy] at q2; cases q2
          by_cases h0 : j = 0
          · exact c (.inl h0)
          · exact q3 (j - 1) z (by omega) hz (pbE_sy e)
theorem first_head {l : List Rt} {x : Rt} : ∀ {j : Nat}, l[j]? = some x → (∀ (u : Nat) y, u < j → l[u]? = some y → ¬ pbE y x) → (l.filter (fun y => decide (y.key = x.key))).head? = some x := by
  induction l with
  | nil => intro j h; cases h
  | cons z l ih =>
    intro j h hn
    cases j with
    | zero =>
      simp only [List.getElem?_cons_zero, Option.some.injEq] at h
      subst h
      rw [List.filter_cons_of_pos (by simp)]
      rfl
    | succ j =>
      have hz := hn 0 z (by omega) rfl
      rw [List.filter_cons_of_neg (by simpa using fun e => hz (key_pb e).1)]
      exact ih (j := j) (by simpa using h) (fun u y hu hy => hn (u + 1) y (by omega) (by simpa using hy))
theorem told_cp {L q : List Rt} (h : Stb L q) (hs : Srt 0 q.length q) : Told L (cpL q) := by
  obtain ⟨h1, h2⟩ := cpN_mem hs (Nat.le_refl _)
  refine ⟨h1, fun x => ?_⟩
  rw [h2]
  constructor
  · rintro ⟨j, q1, q2, q3⟩
    refine ⟨fun y hy he => ?_, by rw [← h x.key]; exact first_head q2 q3⟩
    obtain ⟨u, hu⟩ := List.mem_iff_getElem?.1 (h.mem.2 hy)
    rcases Nat.lt_or_ge u j with c | c
    · exact absurd he (q3 u y c hu)
    · exact kLe_c (srt_le hs c q2 hu) he
  · intro hb
    -- the first of its net in q
    have hx : x ∈ q := h.mem.2 hb.mem
    obtain ⟨i, hi⟩ := List.mem_iff_getElem?.1 hx
    have hex : ∃ j : Nat, ∃ z, q[j]? = some z ∧ pbE z x ∧ ∀ (u : Nat) y, u < j → q[u]? = some y → ¬ pbE y x := by
      have key : ∀ (n i : Nat) (z : Rt), i ≤ n → q[i]? = some z → pbE z x → ∃ j : Nat, ∃ z, q[j]? = some z ∧ pbE z x ∧ ∀ (u : Nat) y, u < j → q[u]? = some y → ¬ pbE y x := by
        intro n
        induction n with
        | zero => intro i z hin hz he; exact ⟨i, z, hz, he, fun u y hu => by omega⟩
        | succ n ih =>
          intro i z hin hz he
          rcases Classical.em (∃ (u : Nat) (y : Rt), u < i ∧ q[u]? = some y ∧ pbE y x) with ⟨u, y, hu, hy, hye⟩ | hno
          · exact ih u y (by omega) hy hye
          · exact ⟨i, z, hz, he, fun u y hu hy hye => hno ⟨u, y, hu, hy, hye⟩⟩
      exact key i i x (Nat.le_refl _) hi ⟨rfl, rfl⟩
    obtain ⟨j, z, hz, hzx, hfirst⟩ := hex
    have hjl := (List.getElem?_eq_some_iff.1 hz).1
    -- it costs as x does, so it is x
    have hzL : z ∈ L := h.mem.1 (List.mem_of_getElem? hz)
    have c1 := hb.le z hzL hzx
    have hji : j ≤ i := by
      rcases Nat.lt_or_ge i j with c | c
      · exact absurd ⟨rfl, rfl⟩ (hfirst i x c hi)
      · exact c
    have c2 := kLe_c (srt_le hs hji hz hi) (pbE_sy hzx)
    have hkey : z.key = x.key := key_of hzx (by omega)
    have hzz : ∀ (u : Nat) y, u < j → q[u]? = some y → ¬ pbE y z := fun u y hu hy he => hfirst u y hu hy ⟨he.1.trans hzx.1, he.2.trans hzx.2⟩
    have h3 := first_head hz hzz
    rw [hkey, h x.key, hb.hd] at h3
    cases h3
    exact ⟨j, hjl, hz, hzz⟩
theorem RtOk.told {L M : List Rt} (h : ∃ q, Seg 0 L.length L q ∧ Srt 0 L.length q ∧ M = cpL q) : Told L M := by
  obtain ⟨q, h1, h2, rfl⟩ := h
  exact told_cp h1.stb (by rw [h1.len]; exact h2)
end Go.Proofs.Ytmocggibcniggaa.Kt
namespace Go.Proofs.Ytmocggibcniggaa.Kt
open Go Kw Go.Proofs
attribute [local irreducible] Kw.GI Kw.GR Kw.FnR Kw.FnX Kw.FnI
set_option maxHeartbeats 16000000
set_option maxRecDepth 100000
/-! ### the reference's routes -/
structure Ent where
  v : Vt
  p : Int
  b : Int
  c : Int
def entS (s : Sn) : Ent := ⟨s.v, s.p, s.b, 0⟩
def entB (s : Sb) : Ent := ⟨⟨1, s.r⟩, s.p, s.b, s.c⟩
def ents (m : Mp) : List Ent := m.sn.map entS ++ m.sb.map entB
def rawE (t : List Nd) (E : List Ent) : List Rt := E.foldl (fun L e => putR t L e.v e.p e.b e.c) []
theorem raw_ents (m : Mp) (t : List Nd) : rawR m t = rawE t (ents m) := by
  unfold rawR rawE ents rawB rawS
  rw [List.foldl_append, List.foldl_map, List.foldl_map]
  rfl
theorem rawE_len (t : List Nd) (E : List Ent) : (rawE t E).length ≤ E.length := by
  have key : ∀ (E : List Ent) (L : List Rt), (E.foldl (fun L e => putR t L e.v e.p e.b e.c) L).length ≤ L.length + E.length := by
    intro E
    induction E with
    | nil => intro L; simp
    | cons e E ih =>
      intro L
      rw [List.foldl_cons]
      have := ih (putR t L e.v e.p e.b e.c)
      have := putR_len t L e.v e.p e.b e.c
      rw [List.length_cons]
      omega
  have := key E []
  simpa [rawE] using this
theorem better17_ok (x y : Rt) (s1 s2 : Bool) (h : s1 = true → s2 = true) : FnR Try.prog 70 [x.av, y.av, Bo s1, Bo s2] (RB (ltB x.c y.c)) := by
  refine fnR_intro (T := TT) (n := 24) Try.func70 rfl rfl rfl (fun w Z => ?_)
  (repeat (first | refine r_end ?_ | (refine r_op ?_; first | refine r_pure hT rfl rfl rfl rfl rfl rfl ?_ | refine r_load hT rfl rfl rfl rfl rfl rfl rfl rfl rfl ?_ | refine r_box rfl rfl rfl rfl rfl rfl rfl rfl rfl ?_) | refine gi_seq ?_ | refine gi_plain ?_))
  refine gi_ne (p := x.c) (q := y.c) rfl (fun c1 => ?_) (fun c1 => ?_)
  · (repeat (first | refine r_end ?_ | (refine r_op ?_; first | refine r_pure hT rfl rfl rfl rfl rfl rfl ?_ | refine r_load hT rfl rfl rfl rfl rfl rfl rfl rfl rfl ?_) | refine gi_seq ?_ | refine gi_plain ?_))
    refine gi_retW hT Try.func70 rfl rfl [] rfl rfl rfl rfl ?_
    exact ⟨rfl, rfl⟩
  · have hf : ltB x.c y.c = false := by rw [ltB_eq, c1]; exact decide_eq_false (by omega)
    (repeat (first | (refine r_op ?_; refine r_pure hT rfl rfl rfl rfl rfl rfl ?_) | refine gi_seq ?_ | refine gi_plain ?_ | refine gi_skip ?_))
    cases s1 with
    | true =>
      rw [h rfl]
      (repeat (first | refine r_end ?_ | (refine r_op ?_; refine r_pure hT rfl rfl rfl rfl rfl rfl ?_)))
      refine gi_retW hT Try.func70 rfl rfl [] rfl rfl rfl rfl ?_
      exact ⟨by rw [hf, notB_eq]; rfl, rfl⟩
    | false =>
      (repeat (first | refine r_end ?_ | (refine r_op ?_; first | refine r_pure hT rfl rfl rfl rfl rfl rfl ?_ | refine r_off rfl rfl rfl rfl rfl ?_)))
      refine gi_retW hT Try.func70 rfl rfl [] rfl rfl rfl rfl ?_
      exact ⟨by rw [hf], rfl⟩
abbrev bRow (b : Bool) : List RV := [.v (.bool b)]
abbrev eBl (l : List Bool) : Option SE := some ⟨4, 1, l.map bRow, false⟩
abbrev eBr (L : List (List RV)) : Option SE := some ⟨4, 1, L, false⟩
abbrev eRr (L : List (List RV)) : Option SE := some ⟨67, 5, L, false⟩
abbrev zRr : List RV := [.v (.int .i64 0), .v (.int .i64 0), .v (.int .i64 0), .v (.int .i64 0), .v (.int .i64 0)]
theorem setR_all : ∀ (vs us pre : List RV), us.length = vs.length → setR (pre ++ us) pre.length vs = pre ++ vs
  | [], us, pre, h => by
    have : us = [] := List.eq_nil_of_length_eq_zero h
    subst this
    rfl
  | v :: vs, [], pre, h => by cases h
  | v :: vs, u :: us, pre, h => by
    unfold setR
    have e : (pre ++ u :: us).set pre.length v = (pre ++ [v]) ++ us := by
      rw [List.set_append_right _ _ (Nat.le_refl _), Nat.sub_self, List.set_cons_zero, List.append_assoc]; rfl
    rw [e]
    have := setR_all vs us (pre ++ [v]) (by simpa using h)
    rw [List.length_append, List.length_singleton] at this
    rw [this, List.append_assoc]
    rfl
theorem sh_any {R : List (List RV)} {z : List RV} {n k : Nat} (hR : ∀ r ∈ R, r.length = n) (hz : z.length = n) (hk : k ≤ R.length) : ∃ r0, ((R ++ [z]).take (k + 1) ++ R.drop k)[k]? = some r0 ∧ ∀ vs : List RV, vs.length = n → setR r0 0 vs = vs := by
  have key : ∀ r0 : List RV, r0.length = n → ∀ vs : List RV, vs.length = n → setR r0 0 vs = vs := fun r0 h vs h' => by
    have := setR_all vs r0 [] (h.trans h'.symm)
    simpa using this
  rw [List.getElem?_append_left (by simp; omega), List.getElem?_take, if_pos (by omega)]
  by_cases h : k < R.length
  · obtain ⟨y, hy⟩ : ∃ y, R[k]? = some y := ⟨_, List.getElem?_eq_getElem h⟩
    exact ⟨y, by rw [List.getElem?_append_left h]; exact hy, key y (hR y (List.mem_of_getElem? hy))⟩
  · have : k = R.length := by omega
    subst this
    exact ⟨z, by rw [List.getElem?_append_right (Nat.le_refl _), Nat.sub_self]; rfl, key z hz⟩
theorem rt_len {M : List Rt} : ∀ r ∈ M.map Rt.row, r.length = 5 := fun r hr => by obtain ⟨x, _, rfl⟩ := List.mem_map.1 hr; rfl
theorem bl_len {M : List Bool} : ∀ r ∈ M.map bRow, r.length = 1 := fun r hr => by obtain ⟨x, _, rfl⟩ := List.mem_map.1 hr; rfl
theorem eBl_ap (a b : List Bool) : eBl (a ++ b) = some (⟨4, 1, a.map bRow ++ b.map bRow, false⟩ : SE) := by rw [eBl, List.map_append]
/-- What the round has found: the list, and whose of Spans they are. -/
structure Rnd (m : Mp) (t : List Nd) (i : Nat) (M : List Rt) (B : List Bool) : Prop where
  eq : M = refR (rawE t ((ents m).take i))
  len : B.length = M.length
  sp : i ≤ m.sn.length → ∀ b ∈ B, b = true
end Go.Proofs.Ytmocggibcniggaa.Kt
namespace Go.Proofs.Ytmocggibcniggaa.Kt
open Go Kw Go.Proofs
set_option maxRecDepth 100000
/-! ### how an edge came into the map -/
inductive Ho (l : List Ls) (e : Eg) : Prop
  | rr (x y : Ls) (q : Lk) : findL l e.f = some x → q ∈ x.lk → q.k = 1 → e.t = ⟨1, q.i⟩ → findL l e.t = some y → e.c = q.c → e.d = q.d → Ho l e
  | rn (x y : Ls) (q : Lk) : findL l e.f = some x → q ∈ x.lk → q.k = 2 → e.t = ⟨2, q.i⟩ → findL l e.t = some y → e.f.i ∈ y.rt → e.c = q.c → e.d = q.d → Ho l e
  | nr (x y : Ls) (q : Lk) : findL l e.f = some x → e.t.k = 1 → e.t.i ∈ x.rt → findL l e.t = some y → backL y.lk 2 e.f.i = some q → e.c = 0 → e.d = q.d → Ho l e
theorem getD_some {α : Type} {o : Option α} {d : α} (h : o.isSome = true) : o = some (o.getD d) := by
  cases o with
  | none => cases h
  | some x => rfl
theorem edRs_how {l : List Ls} {v : Vt} {x : Ls} (hx : findL l v = some x) {e : Eg} : ∀ {j : Nat}, e ∈ edRs l v x.rt j → Ho l e
  | 0, h => by cases h
  | j + 1, h => by
    unfold edRs at h
    rcases List.mem_append.1 h with h | h
    · exact edRs_how hx h
    · split at h
      · rename_i r hr
        unfold edR at h
        split at h
        · cases h
        · split at h
          · rename_i hc
            rw [Bool.and_eq_true] at hc
            rw [List.mem_singleton.1 h]
            exact .nr x _ _ hx rfl (List.mem_of_getElem? hr) (getD_some hc.1) (getD_some hc.2) rfl rfl
          · cases h
      · cases h
theorem from_how {l : List Ls} {v : Vt} {e : Eg} (h : e ∈ fromL l v) : Ho l e := by
  unfold fromL at h
  cases hx : findL l v with
  | none =>
    rw [hx] at h
    cases h
  | some x =>
    rw [hx] at h
    rcases List.mem_append.1 h with h | h
    · obtain ⟨k, hk, hk'⟩ := List.mem_flatMap.1 h
      rcases List.mem_append.1 hk' with h | h
      · unfold edK1 at h
        split at h
        · rename_i h0
          split at h
          · rename_i hc
            rw [Bool.and_eq_true] at hc
            rw [List.mem_singleton.1 h]
            rw [eqB_eq] at h0
            exact .rr x _ k hx hk (by simpa using h0) rfl (getD_some (d := zLs) hc.1) rfl rfl
          · cases h
        · cases h
      · unfold edK2 at h
        split at h
        · rename_i h0
          split at h
          · rename_i hc
            rw [Bool.and_eq_true] at hc
            rw [List.mem_singleton.1 h]
            rw [eqB_eq] at h0
            exact .rn x _ k hx hk (by simpa using h0) rfl (getD_some (d := zLs) hc.1) (by simpa using hc.2) rfl rfl
          · cases h
        · cases h
    · exact edRs_how hx h
theorem map_how {l : List Ls} {e : Eg} (h : e ∈ (mapL l).es) : Ho l e := by
  obtain ⟨v, _, hv⟩ := List.mem_flatMap.1 h
  exact from_how hv
theorem back_is {lk : List Lk} {k i : Int} {q : Lk} (h : backL lk k i = some q) : q ∈ lk ∧ q.k = k ∧ q.i = i := by
  unfold backL at h
  have h1 := List.find?_some h
  unfold bkP at h1
  rw [Bool.and_eq_true] at h1
  exact ⟨List.mem_of_find?_eq_some h, of_decide_eq_true h1.1, of_decide_eq_true h1.2⟩
/-! ### what Graph's links are like -/
/-- Of router r, of k. -/
structure LkG (k r : Int) (q : Lk) : Prop where
  pos : 1 ≤ q.c
  ten : q.c ≤ 10
  kd : (q.k = 1 ∧ 1 ≤ q.i ∧ q.i ≤ k ∧ q.i ≠ r ∧ 1000 ≤ q.d ∧ q.d ≤ 2036) ∨ (q.k = 2 ∧ q.d = q.i + r ∧ q.i % 256 = 0 ∧ 25856 ≤ q.i ∧ q.i ≤ 27648) ∨ (q.k = 3 ∧ q.i = 256 * (200 + r) ∧ q.d = 4294967040)
structure GsG (k : Nat) (gs : List Ls) : Prop where
  len : gs.length = k
  el : ∀ (j : Nat) (x : Ls), gs[j]? = some x → x = ⟨0, 1, (j : Int) + 1, (j : Int) + 1, 0, 0, 0, 0, x.lk, 0, [], []⟩ ∧ ∀ q ∈ x.lk, LkG k ((j : Int) + 1) q
theorem GsG.add {k : Nat} {gs : List Ls} (h : GsG k gs) {a : Nat} {x : Ls} (hx : gs[a]? = some x) {q : Lk} (hq : LkG k ((a : Int) + 1) q) : GsG k (gs.set a (x.add q)) := by
  refine ⟨by rw [List.length_set]; exact h.len, fun j y hy => ?_⟩
  rcases get_set hy with ⟨rfl, rfl, _⟩ | ⟨_, hy⟩
  · obtain ⟨h1, h2⟩ := h.el a x hx
    refine ⟨by unfold Ls.add; rw [h1], fun q' hq' => ?_⟩
    rcases List.mem_append.1 hq' with hq' | hq'
    · exact h2 q' hq'
    · rw [List.mem_singleton.1 hq']; exact hq
  · exact h.el j y hy
theorem Gp.g {k P : Nat} {non : Bool} {i : Nat} {gs : List Ls} (h : Gp k P non i gs) : GsG k gs := by
  induction h with
  | start =>
    refine ⟨by simp, fun j x hx => ?_⟩
    rw [List.getElem?_map] at hx
    cases hr : (List.range k)[j]? with
    | none => rw [hr] at hx; cases hx
    | some z =>
      rw [hr] at hx
      cases hx
      obtain ⟨_, rfl⟩ := List.getElem?_eq_some_iff.1 hr
      rw [List.getElem_range]
      exact ⟨rfl, fun q hq => (nomatch hq)⟩
  | skip _ _ _ ih => exact ih
  | one _ _ h3 h4 h5 h6 h7 h8 _ ih =>
    obtain ⟨q1, q2, q3, q4, q5⟩ := h8
    exact ih.add h7 ⟨q4, by omega, .inl ⟨q1, by omega, by omega, by omega, by omega, by omega⟩⟩
  | two _ _ h3 h4 h5 h6 h7 h8 h9 h10 ih =>
    obtain ⟨q1, q2, q3, q4, q5⟩ := h8
    obtain ⟨r1, r2, r3, r4, r5⟩ := h10
    exact (ih.add h7 ⟨q4, by omega, .inl ⟨q1, by omega, by omega, by omega, by omega, by omega⟩⟩).add h9 ⟨r4, by omega, .inl ⟨r1, by omega, by omega, by omega, by omega, by omega⟩⟩
theorem Gn.lt {k P Q : Nat} {non : Bool} {i : Nat} {gs ns : List Ls} {o : Option (Nat × List Int)} (h : Gn k P Q non i gs ns o) : i ≤ 8 ∧ (o.isSome = true → i < 8) := by
  induction h with
  | start _ => exact ⟨by omega, fun h => by cases h⟩
  | into _ _ h2 _ => exact ⟨by omega, fun _ => h2⟩
  | skip _ _ ih => exact ⟨ih.1, fun _ => ih.2 rfl⟩
  | half _ _ _ _ ih => exact ⟨ih.1, fun _ => ih.2 rfl⟩
  | full _ _ _ _ _ ih => exact ⟨ih.1, fun _ => ih.2 rfl⟩
  | out _ _ _ ih => exact ⟨by have := ih.2 rfl; omega, fun h => by cases h⟩
theorem Gn.g {k P Q : Nat} {non : Bool} {i : Nat} {gs ns : List Ls} {o : Option (Nat × List Int)} (h : Gn k P Q non i gs ns o) : GsG k gs := by
  induction h with
  | start h => exact h.g
  | into _ _ _ ih => exact ih
  | skip _ _ ih => exact ih
  | half _ _ _ _ ih => exact ih
  | full h0 h1 h2 h3 _ ih =>
    have := h0.lt.2 rfl
    obtain ⟨q1, q2, q3, q4, q5⟩ := h3
    exact ih.add h2 ⟨q4, by omega, .inr (.inl ⟨q1, by omega, by omega, by omega, by omega⟩)⟩
  | out _ _ _ ih => exact ih
theorem Gf.g {k P Q : Nat} {non : Bool} {r : Nat} {gs ns : List Ls} (h : Gf k P Q non r gs ns) : GsG k gs := by
  induction h with
  | start h => exact h.g
  | stub _ _ h2 h3 ih =>
    obtain ⟨q1, q2, q3, q4, q5⟩ := h3
    exact ih.add h2 ⟨q4, by omega, .inr (.inr ⟨q1, by omega, q3⟩)⟩
/-- The networks: which are there, whose they are. -/
structure NsG (k : Nat) (i : Nat) (ns : List Ls) : Prop where
  len : ns.length = i
  el : ∀ (j : Nat) (y : Ls), ns[j]? = some y → y = ⟨0, 2, 256 * (101 + (j : Int)), y.adv, 0, 0, 0, 0, [], 24, y.rt, []⟩ ∧ (∀ z ∈ y.rt, 1 ≤ z ∧ z ≤ (k : Int)) ∧ y.rt.Nodup
theorem Gn.n {k P Q : Nat} {non : Bool} {i : Nat} {gs ns : List Ls} {o : Option (Nat × List Int)} (h : Gn k P Q non i gs ns o) : NsG k i ns ∧ ∀ r rt, o = some (r, rt) → r ≤ k ∧ (∀ z ∈ rt, 1 ≤ z ∧ z ≤ (r : Int)) ∧ rt.Nodup := by
  have snoc : ∀ {r : Nat} {rt : List Int} {z : Int}, z = (r : Int) + 1 → r < k → (r ≤ k ∧ (∀ z ∈ rt, 1 ≤ z ∧ z ≤ (r : Int)) ∧ rt.Nodup) → (r + 1 ≤ k ∧ (∀ y ∈ rt ++ [z], 1 ≤ y ∧ y ≤ ((r + 1 : Nat) : Int)) ∧ (rt ++ [z]).Nodup) := by
    rintro r rt z rfl hr ⟨_, h1, h2⟩
    refine ⟨by omega, fun y hy => ?_, ?_⟩
    · rcases List.mem_append.1 hy with hy | hy
      · have := h1 y hy; omega
      · rw [List.mem_singleton.1 hy]; omega
    · rw [List.nodup_append]
      refine ⟨h2, by simp, fun a ha b hb => ?_⟩
      rw [List.mem_singleton.1 hb]
      have := h1 a ha
      omega
  induction h with
  | start h => exact ⟨⟨rfl, fun j y hy => by simp at hy⟩, fun r rt h => by cases h⟩
  | into _ _ _ ih => exact ⟨ih.1, fun r rt h => by cases h; exact ⟨by omega, fun z hz => (nomatch hz), List.nodup_nil⟩⟩
  | skip _ h1 ih => exact ⟨ih.1, fun r rt h => by
      cases h
      obtain ⟨h2, h3, h4⟩ := ih.2 _ _ rfl
      exact ⟨by omega, fun z hz => by have := h3 z hz; omega, h4⟩⟩
  | half _ h1 _ hz ih => exact ⟨ih.1, fun r rt h => by cases h; exact snoc hz h1 (ih.2 _ _ rfl)⟩
  | full _ h1 _ _ hz ih => exact ⟨ih.1, fun r rt h => by cases h; exact snoc hz h1 (ih.2 _ _ rfl)⟩
  | out _ h2 h3 ih =>
    obtain ⟨⟨a1, a2⟩, a3⟩ := ih
    obtain ⟨b1, b2, b3⟩ := a3 _ _ rfl
    refine ⟨⟨by rw [List.length_append, a1]; rfl, fun j y hy => ?_⟩, fun r rt h => by cases h⟩
    rcases get_snoc hy with hy | ⟨rfl, rfl⟩
    · exact a2 j y hy
    · exact ⟨by rw [a1, ← h2], b2, b3⟩
theorem Gf.n {k P Q : Nat} {non : Bool} {r : Nat} {gs ns : List Ls} (h : Gf k P Q non r gs ns) : NsG k ns.length ns ∧ ns.length ≤ 8 := by
  induction h with
  | start h =>
    have := h.n.1
    rw [this.len]
    exact ⟨this, h.lt.1⟩
  | stub _ _ _ _ ih => exact ih
/-- What the edges of Graph's map are like. -/
structure EdG (k : Int) (e : Eg) : Prop where
  kd : e.f.k = 1 ∨ e.f.k = 2
  up : e.f.k = 1 → 1 ≤ e.c
  dn : e.f.k = 2 → e.c = 0 ∧ e.t.k = 1 ∧ e.d = e.f.i + e.t.i ∧ e.f.i % 256 = 0 ∧ 25856 ≤ e.f.i
  to : e.t.k = 1 → 1 ≤ e.t.i ∧ e.t.i ≤ k
theorem Mde.find {n : Int} {P Q : Nat} {non : Bool} {l : List Ls} (h : Mde n P Q non l) {v : Vt} {x : Ls} (hx : findL l v = some x) : (v.k = 1 ∧ 1 ≤ v.i ∧ v.i ≤ 1 + n % 6 ∧ x.rt = [] ∧ ∀ q ∈ x.lk, LkG (1 + n % 6) v.i q) ∨ (v.k = 2 ∧ x.lk = [] ∧ v.i % 256 = 0 ∧ 25856 ≤ v.i ∧ ∀ z ∈ x.rt, 1 ≤ z ∧ z ≤ 1 + n % 6) := by
  obtain ⟨k, gs, ns, hk, rfl, hf⟩ := h.ex
  obtain ⟨h1, h2, h3, h4⟩ := find_is hx
  unfold isV at h3
  rw [Bool.or_eq_true, Bool.and_eq_true, Bool.and_eq_true, Bool.and_eq_true] at h3
  rcases List.mem_append.1 h1 with h1 | h1
  · obtain ⟨j, hj⟩ := List.mem_iff_getElem?.1 h1
    obtain ⟨e1, e2⟩ := hf.g.el j x hj
    have hjl := (List.getElem?_eq_some_iff.1 hj).1
    have hl := hf.g.len
    have hxk : x.kind = 1 := by rw [e1]
    have hxi : x.id = (j : Int) + 1 := by rw [e1]
    rcases h3 with ⟨a, _, _⟩ | ⟨_, a⟩
    · have a := of_decide_eq_true a
      refine .inl ⟨a, by omega, by omega, by rw [e1], ?_⟩
      rw [← h4, hxi, ← hk]
      exact e2
    · have a := of_decide_eq_true a
      omega
  · obtain ⟨j, hj⟩ := List.mem_iff_getElem?.1 h1
    obtain ⟨e1, e2, _⟩ := hf.n.1.el j x hj
    have hxk : x.kind = 2 := by rw [e1]
    have hxi : x.id = 256 * (101 + (j : Int)) := by rw [e1]
    rcases h3 with ⟨_, a, _⟩ | ⟨a, _⟩
    · have a := of_decide_eq_true a
      omega
    · have a := of_decide_eq_true a
      refine .inr ⟨a, by rw [e1], by omega, by omega, ?_⟩
      rw [← hk]
      exact e2
theorem Mde.edge {n : Int} {P Q : Nat} {non : Bool} {l : List Ls} (h : Mde n P Q non l) {e : Eg} (he : e ∈ (mapL l).es) : EdG (1 + n % 6) e := by
  cases map_how he with
  | rr x y q h1 h2 h3 h4 h5 h6 h7 =>
    rcases h.find h1 with ⟨a1, _, _, _, a5⟩ | ⟨_, a2, _⟩
    · have hq := a5 q h2
      refine ⟨.inl a1, fun _ => by rw [h6]; exact hq.pos, fun a => by omega, fun _ => ?_⟩
      rcases h.find h5 with ⟨_, b1, b2, _⟩ | ⟨b1, _⟩
      · exact ⟨b1, b2⟩
      · rw [h4] at b1; cases b1
    · rw [a2] at h2; cases h2
  | rn x y q h1 h2 h3 h4 h5 h6 h7 h8 =>
    rcases h.find h1 with ⟨a1, _, _, _, a5⟩ | ⟨_, a2, _⟩
    · have hq := a5 q h2
      exact ⟨.inl a1, fun _ => by rw [h7]; exact hq.pos, fun a => by omega, fun a => by rw [h4] at a; cases a⟩
    · rw [a2] at h2; cases h2
  | nr x y q h1 h2 h3 h4 h5 h6 h7 =>
    rcases h.find h1 with ⟨_, _, _, a4, _⟩ | ⟨a1, a2, a3, a4, a5⟩
    · rw [a4] at h3; cases h3
    · obtain ⟨q1, q2, q3⟩ := back_is h5
      rcases h.find h4 with ⟨_, b1, b2, _, b5⟩ | ⟨b1, _⟩
      · have hq := b5 q q1
        have hd : q.d = q.i + e.t.i := by
          rcases hq.kd with ⟨c, _⟩ | ⟨_, c, _⟩ | ⟨c, _⟩
          · omega
          · exact c
          · omega
        exact ⟨.inr a1, fun a => by omega, fun _ => ⟨h6, h2, by rw [h7, hd, q3], a3, a4⟩, fun _ => ⟨b1, b2⟩⟩
      · omega
end Go.Proofs.Ytmocggibcniggaa.Kt
namespace Go.Proofs.Ytmocggibcniggaa.Kt
open Go Kw Go.Proofs
set_option maxHeartbeats 4000000
set_option maxRecDepth 100000
/-! ### who goes on comes nearer -/
theorem mem_rawE {t : List Nd} {E : List Ent} {x : Rt} : x ∈ rawE t E ↔ ∃ e ∈ E, ∃ a, placeL t e.v = some a ∧ x = ⟨e.p, e.b, wr .i64 ((t.getD a zNd).c + e.c), (hopF t a).1, (hopF t a).2⟩ := by
  have key : ∀ (E : List Ent) (L : List Rt), x ∈ E.foldl (fun L e => putR t L e.v e.p e.b e.c) L ↔ x ∈ L ∨ ∃ e ∈ E, ∃ a, placeL t e.v = some a ∧ x = ⟨e.p, e.b, wr .i64 ((t.getD a zNd).c + e.c), (hopF t a).1, (hopF t a).2⟩ := by
    intro E
    induction E with
    | nil => intro L; simp
    | cons e E ih =>
      intro L
      rw [List.foldl_cons, ih]
      have hp : x ∈ putR t L e.v e.p e.b e.c ↔ x ∈ L ∨ ∃ a, placeL t e.v = some a ∧ x = ⟨e.p, e.b, wr .i64 ((t.getD a zNd).c + e.c), (hopF t a).1, (hopF t a).2⟩ := by
        unfold putR
        split
        · rename_i h
          rw [h]
          exact ⟨.inl, fun h => h.elim id (fun ⟨a, h, _⟩ => by cases h)⟩
        · rename_i a h
          rw [h, List.mem_append, List.mem_singleton]
          exact ⟨fun h => h.imp id (fun h => ⟨a, rfl, h⟩), fun h => h.imp id (fun ⟨b, h1, h2⟩ => by cases h1; exact h2)⟩
      rw [hp]
      constructor
      · rintro ((h | h) | ⟨e', h1, h2⟩)
        · exact .inl h
        · exact .inr ⟨e, List.mem_cons_self .., h⟩
        · exact .inr ⟨e', List.mem_cons_of_mem _ h1, h2⟩
      · rintro (h | ⟨e', h1, h2⟩)
        · exact .inl (.inl h)
        · rcases List.mem_cons.1 h1 with rfl | h1
          · exact .inl (.inr h2)
          · exact .inr ⟨e', h1, h2⟩
  have := key E []
  simpa [rawE] using this
/-- Who is next, behind a look through the edges. -/
def nxF (es : List Eg) (D : Int) : Int := es.foldl (fun a e => if e.f.k = 2 ∧ e.d = D then e.t.i else a) D
theorem nx_is {es : List Eg} {D R : Int} (h : ∀ e ∈ es, e.f.k = 2 → e.d = D → e.t.i = R) (h' : D = R ∨ ∃ e ∈ es, e.f.k = 2 ∧ e.d = D) : nxF es D = R := by
  have key : ∀ (es : List Eg) (a : Int), (∀ e ∈ es, e.f.k = 2 → e.d = D → e.t.i = R) → (a = R ∨ ∃ e ∈ es, e.f.k = 2 ∧ e.d = D) → es.foldl (fun a e => if e.f.k = 2 ∧ e.d = D then e.t.i else a) a = R := by
    intro es
    induction es with
    | nil =>
      rintro a _ (h | ⟨e, h, _⟩)
      · exact h
      · cases h
    | cons e es ih =>
      intro a h h'
      rw [List.foldl_cons]
      refine ih _ (fun e' he' => h e' (List.mem_cons_of_mem _ he')) ?_
      by_cases hc : e.f.k = 2 ∧ e.d = D
      · rw [if_pos hc]
        exact .inl (h e (List.mem_cons_self ..) hc.1 hc.2)
      · rw [if_neg hc]
        rcases h' with h' | ⟨e', he', h'⟩
        · exact .inl h'
        · rcases List.mem_cons.1 he' with rfl | he'
          · exact absurd h' hc
          · exact .inr ⟨e', he', h'⟩
  exact key es D h h'
theorem getD_at {t : List Nd} {i : Nat} {n : Nd} (h : t[i]? = some n) : t.getD i zNd = n := by rw [List.getD_eq_getElem?_getD, h]; rfl
section
variable {n : Int} {P Q : Nat} {non : Bool} {l : List Ls}
structure HopOk (l : List Ls) (t : List Nd) (i : Nat) (m : Nat) (g : Nd) : Prop where
  lt : m < dep t i i
  gt : t[anc t i m]? = some g
  vs : g.v ∈ (mapL l).vs
  kd : g.v.k = 1
  c : 1 ≤ g.c
  nx : nxF (mapL l).es (hopF t i).2 = g.v.i
theorem hop_next (hG : GrOk n l) (hM : Mde n P Q non l) {s : Int} {t : List Nd} (hT : Tr l ⟨1, s⟩ t) {i : Nat} (hi : i < t.length) (hn : (hopF t i).2 ≠ 0) : ∃ m g, HopOk l t i m g := by
  have hT0 := hT.tre
  obtain ⟨d1, d2⟩ := dep_spec hT0 (Nat.le_refl i) hi
  have hle := fun m hm => anc_le hT0 hi (m := m) (fun u hu => d2 u (Nat.lt_of_lt_of_le hu hm))
  have hf0 : hopF t i = hopF t i := rfl
  obtain ⟨M, hMd⟩ : ∃ M, M = dep t i i := ⟨_, rfl⟩
  conv at hf0 => rhs; unfold hopF
  rw [← hMd] at d1 d2 hle hf0
  by_cases hM0 : M = 0
  · rw [if_pos hM0] at hf0
    rw [hf0] at hn
    exact absurd rfl hn
  rw [if_neg hM0] at hf0
  have hk6 : 1 + n % 6 ≤ 6 := by omega
  obtain ⟨nf, hnf⟩ : ∃ nf, t[anc t i (M - 1)]? = some nf := ⟨_, List.getElem?_eq_getElem (by have := hle (M - 1) (by omega); omega)⟩
  obtain ⟨e, he, p, x, hp, hx, hxf, het, hnp, hnc, hnd, _⟩ := hT.gr.edge (d2 (M - 1) (by omega)) hnf
  have hpar := (par_at hT0 (d2 (M - 1) (by omega)) hnf).1
  have hp0 : par t (anc t i (M - 1)) = 0 := by
    have : anc t i (M - 1 + 1) = par t (anc t i (M - 1)) := rfl
    rw [← this, Nat.sub_add_cancel (by omega)]; exact d1
  rw [hp0, hnp] at hpar
  have hp0' : p = 0 := by omega
  subst hp0'
  rw [hT.hd] at hx
  cases hx
  have hE := hM.edge he
  have hck := hG.cost e he
  have hfk : e.f.k = 1 := by rw [← hxf]; rfl
  have he1 := hE.up hfk
  have hnc : nf.c = e.c := by
    rw [hnc]
    show wr .i64 (0 + e.c) = e.c
    rw [Int.zero_add, wr_i64 (by omega) (by omega)]
  rw [getD_at hnf] at hf0
  have hvk := verts_kind (hT.vs nf (List.mem_of_getElem? hnf))
  by_cases hk1 : nf.v.k = 1
  · rw [if_pos hk1] at hf0
    have hto := hE.to (by rw [het]; exact hk1)
    rw [het] at hto
    refine ⟨M - 1, nf, by omega, hnf, hT.vs nf (List.mem_of_getElem? hnf), hk1, by omega, ?_⟩
    rw [hf0]
    refine nx_is (fun e' he' h1 h2 => ?_) (.inl rfl)
    have hE' := hM.edge he'
    obtain ⟨_, b2, b3, b4, b5⟩ := hE'.dn h1
    have := hE'.to b2
    simp only at h2
    omega
  · rw [if_neg hk1] at hf0
    have hk2 : nf.v.k = 2 := hvk.resolve_left hk1
    by_cases hM1 : M = 1
    · rw [if_pos hM1] at hf0
      rw [hf0] at hn
      exact absurd rfl hn
    rw [if_neg hM1] at hf0
    obtain ⟨ng, hng⟩ : ∃ ng, t[anc t i (M - 2)]? = some ng := ⟨_, List.getElem?_eq_getElem (by have := hle (M - 2) (by omega); omega)⟩
    obtain ⟨e2, he2, p2, x2, hp2, hx2, hxf2, het2, hnp2, hnc2, hnd2, _⟩ := hT.gr.edge (d2 (M - 2) (by omega)) hng
    have hpar2 := (par_at hT0 (d2 (M - 2) (by omega)) hng).1
    have hp1 : par t (anc t i (M - 2)) = anc t i (M - 1) := by
      have : anc t i (M - 2 + 1) = par t (anc t i (M - 2)) := rfl
      rw [← this, show M - 2 + 1 = M - 1 by omega]
    rw [hp1, hnp2] at hpar2
    have hpe : p2 = anc t i (M - 1) := by omega
    subst hpe
    rw [hnf] at hx2
    cases hx2
    have hE2 := hM.edge he2
    obtain ⟨b1, b2, b3, b4, b5⟩ := hE2.dn (by rw [← hxf2]; exact hk2)
    have hto := hE2.to b2
    have hgc : ng.c = nf.c := by rw [hnc2, b1, Int.add_zero, wr_i64 (by omega) (by omega)]
    rw [getD_at hng] at hf0
    refine ⟨M - 2, ng, by omega, hng, hT.vs ng (List.mem_of_getElem? hng), by rw [← het2]; exact b2, by omega, ?_⟩
    rw [hf0]
    refine nx_is (fun e' he' h1 h2 => ?_) (.inr ⟨e2, he2, by rw [← hxf2]; exact hk2, hnd2.symm⟩)
    have hE' := hM.edge he'
    obtain ⟨_, c2, c3, c4, c5⟩ := hE'.dn h1
    have hto' := hE'.to c2
    simp only at h2
    rw [← het2]
    omega
theorem way_short (hG : GrOk n l) {s : Int} {t : List Nd} (hT : Tr l ⟨1, s⟩ t) {i : Nat} (hi : i < t.length) {m0 : Nat} {g : Nd} (hm0 : m0 < dep t i i) (hg : t[anc t i m0]? = some g) {u : List Nd} (hU : Tr l g.v u) :
    ∀ d, d ≤ m0 → ∃ (b : Nat) (y z : Nd), u[b]? = some y ∧ t[anc t i (m0 - d)]? = some z ∧ y.v = z.v ∧ y.c + g.c ≤ z.c := by
  have hT0 := hT.tre
  obtain ⟨d1, d2⟩ := dep_spec hT0 (Nat.le_refl i) hi
  have hle := fun m hm => anc_le hT0 hi (m := m) (fun u hu => d2 u (Nat.lt_of_lt_of_le hu hm))
  have hes : ∀ e ∈ (mapL l).es, 0 ≤ e.c ∧ e.c ≤ 10 := hG.cost
  intro d
  induction d with
  | zero => intro _; exact ⟨0, rootN g.v, g, hU.hd, hg, rfl, by show (0 : Int) + g.c ≤ g.c; omega⟩
  | succ d ih =>
    intro hd
    obtain ⟨b, y, z, hb, hz, hyz, hyc⟩ := ih (by omega)
    have hpos := d2 (m0 - (d + 1)) (by omega)
    obtain ⟨w, hw⟩ : ∃ w, t[anc t i (m0 - (d + 1))]? = some w := ⟨_, List.getElem?_eq_getElem (by have := hle (m0 - (d + 1)) (by omega); omega)⟩
    obtain ⟨e, he, p, x, hp, hx, hxf, het, hnp, hnc, _, _⟩ := hT.gr.edge hpos hw
    have hpar := (par_at hT0 hpos hw).1
    have hp1 : par t (anc t i (m0 - (d + 1))) = anc t i (m0 - d) := by
      have : anc t i (m0 - (d + 1) + 1) = par t (anc t i (m0 - (d + 1))) := rfl
      rw [← this, show m0 - (d + 1) + 1 = m0 - d by omega]
    rw [hp1, hnp] at hpar
    have hpe : p = anc t i (m0 - d) := by omega
    subst hpe
    rw [hz] at hx
    cases hx
    obtain ⟨c1, c2⟩ := hT.gr.cost (C := 10) hT.zero hT.len (by omega) hes _ _ hz
    have hzl := (List.getElem?_eq_some_iff.1 hz).1
    have hTl := hT.len
    have hec := hes e he
    have hwc : w.c = z.c + e.c := by rw [hnc, wr_i64 (by omega) (by omega)]
    have hpl : placeL u e.f = some b := by rw [← hxf, ← hyz]; exact hU.gr.place hb
    obtain ⟨b', hb'⟩ := closed hU.en he hpl
    obtain ⟨y', hy', hyv'⟩ := placeL_some hb'
    have := hU.gr.short soon_cheap (C := 10) hU.zero hU.len (by omega) hes he hb (by rw [hyz]; exact hxf) hy' hyv'
    exact ⟨b', y', w, hy', hw, by rw [hyv', het], by omega⟩
theorem ents_cost (hG : GrOk n l) : ∀ e ∈ ents (mapL l), 0 ≤ e.c ∧ e.c ≤ 10 := fun e he => by
  unfold ents at he
  rcases List.mem_append.1 he with he | he
  · obtain ⟨x, _, rfl⟩ := List.mem_map.1 he
    exact ⟨Int.le_refl _, by show (0 : Int) ≤ 10; omega⟩
  · obtain ⟨x, hx, rfl⟩ := List.mem_map.1 he
    have hx : x ∈ (vertsL l).flatMap (sbF l) := hx
    obtain ⟨v, _, hv⟩ := List.mem_flatMap.1 hx
    unfold sbF at hv
    split at hv
    · cases hv
    · obtain ⟨k, hk, hk'⟩ := List.mem_flatMap.1 hv
      cases hf : findL l v with
      | none => rw [hf] at hk; cases hk
      | some y =>
        rw [hf] at hk
        have := hG.link y (find_mem hf) k hk
        unfold stF at hk'
        split at hk'
        · rw [List.mem_singleton.1 hk']
          exact ⟨this.1, this.2.1⟩
        · cases hk'
theorem hops (hG : GrOk n l) (hM : Mde n P Q non l) {s : Int} {x : Rt} (hx : x ∈ refR (rawL l s)) (hn : x.n ≠ 0) : ∃ y ∈ refR (rawL l (nxF (mapL l).es x.n)), y.p = x.p ∧ y.b = x.b ∧ y.c < x.c := by
  have hf := hG.few
  have hB := ((told_ref (rawL l s)).mem x).1 hx
  have hraw := hB.mem
  unfold rawL at hraw
  rw [raw_ents, mem_rawE] at hraw
  obtain ⟨E, hE, a, ha, hxe⟩ := hraw
  have hxn : x.n = (hopF (refTree (mapL l) ⟨1, s⟩) a).2 := by rw [hxe]
  have hv : (⟨1, s⟩ : Vt) ∈ (mapL l).vs := by
    refine Classical.byContradiction fun hv => ?_
    have : refTree (mapL l) ⟨1, s⟩ = [] := by
      unfold refTree
      rw [show (mapL l).vs.any (fun x => decide (x = (⟨1, s⟩ : Vt))) = false from ?_]
      rw [← Bool.not_eq_true, List.any_eq_true]
      rintro ⟨y, hy, he⟩
      exact hv (of_decide_eq_true he ▸ hy)
    rw [this] at ha
    cases ha
  have hT := tr_of hf hv
  obtain ⟨t, ht⟩ : ∃ t, t = refTree (mapL l) ⟨1, s⟩ := ⟨_, rfl⟩
  rw [← ht] at ha hxe hxn hT
  obtain ⟨z, hz, hzv⟩ := placeL_some ha
  have hal := (List.getElem?_eq_some_iff.1 hz).1
  obtain ⟨m0, g, hH⟩ := hop_next hG hM hT hal (by rw [← hxn]; exact hn)
  have hgv : g.v = ⟨1, g.v.i⟩ := by have := hH.kd; cases hgg : g.v; rw [hgg] at this; simp only at this; rw [this]
  have hU := tr_of hf hH.vs
  obtain ⟨b, y, z', hb, hz', hyz, hyc⟩ := way_short hG hT hal hH.lt hH.gt hU m0 (Nat.le_refl _)
  rw [Nat.sub_self] at hz'
  have : t[a]? = some z' := hz'
  rw [hz] at this
  cases this
  have hpl : placeL (refTree (mapL l) g.v) E.v = some b := by rw [← hzv, ← hyz]; exact hU.gr.place hb
  rw [hxn, hH.nx]
  rw [hgv] at hpl hb hU
  have hmem : (⟨E.p, E.b, wr .i64 (((refTree (mapL l) ⟨1, g.v.i⟩).getD b zNd).c + E.c), (hopF (refTree (mapL l) ⟨1, g.v.i⟩) b).1, (hopF (refTree (mapL l) ⟨1, g.v.i⟩) b).2⟩ : Rt) ∈ rawL l g.v.i := by
    show _ ∈ rawR (mapL l) (refTree (mapL l) ⟨1, g.v.i⟩)
    rw [raw_ents, mem_rawE]
    exact ⟨E, hE, b, hpl, rfl⟩
  obtain ⟨w, h1, h2, h3⟩ := best_ex _ _ hmem
  have hes : ∀ e ∈ (mapL l).es, 0 ≤ e.c ∧ e.c ≤ 10 := hG.cost
  obtain ⟨c1, c2⟩ := hT.gr.cost (C := 10) hT.zero hT.len (by omega) hes _ _ hz
  obtain ⟨c3, c4⟩ := hU.gr.cost (C := 10) hU.zero hU.len (by omega) hes _ _ hb
  have hEc := ents_cost hG E hE
  have hTl := hT.len
  have hUl := hU.len
  have hbl := (List.getElem?_eq_some_iff.1 hb).1
  have hgc := hH.c
  have hxc : x.c = z.c + E.c := by rw [hxe]; show wr .i64 ((t.getD a zNd).c + E.c) = _; rw [getD_at hz, wr_i64 (by omega) (by omega)]
  have hwc : w.c ≤ y.c + E.c := by
    have h3 : w.c ≤ wr .i64 (((refTree (mapL l) ⟨1, g.v.i⟩).getD b zNd).c + E.c) := h3
    rw [getD_at hb, wr_i64 (by omega) (by omega)] at h3
    exact h3
  exact ⟨w, ((told_ref _).mem w).2 h1, by rw [h2.1, hxe], by rw [h2.2, hxe], by omega⟩
end
end Go.Proofs.Ytmocggibcniggaa.Kt
namespace Go.Proofs.Ytmocggibcniggaa.Kt
open Go Kw Go.Proofs
set_option maxHeartbeats 4000000
set_option maxRecDepth 100000
/-! ### a row of routers: its trees -/
/-- Routers 1 to n in a row; cs j is what the link from j to j + 1 costs, either way; up j its Data at j, dn j the other link's; St j: the stubs of j. -/
structure RowL (n : Nat) (cs up dn : Nat → Int) (St : Nat → Lk → Prop) (gs : List Ls) : Prop where
  len : gs.length = n
  el : ∀ (j : Nat) (x : Ls), gs[j]? = some x → x = ⟨0, 1, (j : Int) + 1, (j : Int) + 1, 0, 0, 0, 0, x.lk, 0, [], []⟩ ∧ x.lk.length ≤ 100 ∧
    (∀ q ∈ x.lk, (q.k = 1 ∧ j + 1 < n ∧ q.i = (j : Int) + 2 ∧ q.c = cs j ∧ q.d = up j) ∨ (q.k = 1 ∧ 0 < j ∧ q.i = (j : Int) ∧ q.c = cs (j - 1) ∧ q.d = dn j) ∨ (q.k = 3 ∧ St j q)) ∧
    (j + 1 < n → ∃ q ∈ x.lk, q.k = 1 ∧ q.i = (j : Int) + 2) ∧ (0 < j → ∃ q ∈ x.lk, q.k = 1 ∧ q.i = (j : Int)) ∧ (∀ q, St j q → q ∈ x.lk ∧ q.k = 3)
def prs (cs : Nat → Int) : Nat → Int
  | 0 => 0
  | j + 1 => prs cs j + cs j
theorem find_foldY {v : Vt} : ∀ {l : List Ls} {m : Option Ls}, (m.isSome = true ∨ ∃ x ∈ l, x.age < 3600 ∧ isV v x = true ∧ x.id = v.i) → (l.foldl (fdS v) m).isSome = true
  | [], m, h => by
    rcases h with h | ⟨x, hx, _⟩
    · exact h
    · cases hx
  | y :: l, m, h => by
    rw [List.foldl_cons]
    refine find_foldY ?_
    by_cases hm : (fdS v m y).isSome = true
    · exact .inl hm
    · right
      have hmn : m = none := by
        cases m with
        | none => rfl
        | some z =>
          unfold fdS at hm
          split at hm <;> exact absurd rfl hm
      subst hmn
      rcases h with h | ⟨x, hx, h1, h2, h3⟩
      · cases h
      · rcases List.mem_cons.1 hx with rfl | hx
        · exfalso
          apply hm
          unfold fdS
          rw [if_pos (by simp [h1, h2, h3])]
          rfl
        · exact ⟨x, hx, h1, h2, h3⟩
theorem find_any {l : List Ls} {v : Vt} {x : Ls} (hx : x ∈ l) (h1 : x.age < 3600) (h2 : isV v x = true) (h3 : x.id = v.i) : ∃ y, findL l v = some y :=
  Option.isSome_iff_exists.1 (find_foldY (.inr ⟨x, hx, h1, h2, h3⟩))
section
variable {n : Nat} {cs up dn : Nat → Int} {St : Nat → Lk → Prop} {gs : List Ls}
theorem RowL.find (h : RowL n cs up dn St gs) {v : Vt} {x : Ls} (hx : findL gs v = some x) : ∃ j : Nat, gs[j]? = some x ∧ v = ⟨1, (j : Int) + 1⟩ ∧ j < n := by
  obtain ⟨h1, _, h3, h4⟩ := find_is hx
  obtain ⟨j, hj⟩ := List.mem_iff_getElem?.1 h1
  have hjl := (List.getElem?_eq_some_iff.1 hj).1
  obtain ⟨h5, _⟩ := h.el j x hj
  refine ⟨j, hj, ?_, by rw [← h.len]; exact hjl⟩
  rw [h5] at h3 h4
  unfold isV at h3
  cases v with
  | mk vk vi =>
    simp only [Bool.or_eq_true, Bool.and_eq_true, decide_eq_true_eq] at h3 h4
    rcases h3 with ⟨h3, _⟩ | ⟨_, h3⟩
    · rw [h3, ← h4]
    · exact absurd h3 (by decide)
theorem RowL.find_at (h : RowL n cs up dn St gs) {j : Nat} (hj : j < n) : ∃ x, gs[j]? = some x ∧ findL gs ⟨1, (j : Int) + 1⟩ = some x := by
  obtain ⟨x, hx⟩ : ∃ x, gs[j]? = some x := ⟨_, List.getElem?_eq_getElem (by rw [h.len]; exact hj)⟩
  obtain ⟨h5, _⟩ := h.el j x hx
  obtain ⟨y, hy⟩ := find_any (v := ⟨1, (j : Int) + 1⟩) (List.mem_of_getElem? hx) (by rw [h5]; show (0 : Int) < 3600; decide) (by rw [h5]; simp [isV]) (by rw [h5])
  obtain ⟨j', h1, h2, _⟩ := h.find hy
  have : j' = j := by
    have := congrArg Vt.i h2
    simp only at this
    omega
  subst this
  rw [hx] at h1
  cases h1
  exact ⟨x, hx, hy⟩
theorem RowL.verts (h : RowL n cs up dn St gs) {v : Vt} : v ∈ vertsL gs ↔ ∃ j : Nat, j < n ∧ v = ⟨1, (j : Int) + 1⟩ := by
  rw [verts_mem]
  constructor
  · rintro ⟨x, hx, _, h2⟩
    obtain ⟨j, hj⟩ := List.mem_iff_getElem?.1 hx
    have hjl := (List.getElem?_eq_some_iff.1 hj).1
    obtain ⟨h5, _⟩ := h.el j x hj
    refine ⟨j, by rw [← h.len]; exact hjl, ?_⟩
    rw [h5] at h2
    rcases h2 with ⟨_, _, h2⟩ | ⟨h2, _⟩
    · exact h2
    · exact absurd h2 (by show ¬ (1 : Int) = 2; decide)
  · rintro ⟨j, hj, rfl⟩
    obtain ⟨x, hx, _⟩ := h.find_at hj
    obtain ⟨h5, _⟩ := h.el j x hx
    refine ⟨x, List.mem_of_getElem? hx, by rw [h5]; show (0 : Int) < 3600; decide, .inl ⟨by rw [h5], by rw [h5], by rw [h5]⟩⟩
theorem RowL.few (h : RowL n cs up dn St gs) (hn : n ≤ 1000) : Few gs := by
  refine ⟨by rw [h.len]; exact hn, fun x hx => ?_, fun x hx => ?_⟩
  · obtain ⟨j, hj⟩ := List.mem_iff_getElem?.1 hx
    have := (h.el j x hj).2.1
    omega
  · obtain ⟨j, hj⟩ := List.mem_iff_getElem?.1 hx
    rw [(h.el j x hj).1]; exact Nat.zero_le _
/-- An edge leads to a neighbour. -/
theorem RowL.edge (h : RowL n cs up dn St gs) {e : Eg} (he : e ∈ (mapL gs).es) : ∃ j : Nat, j < n ∧ e.f = ⟨1, (j : Int) + 1⟩ ∧ ((j + 1 < n ∧ e.t = ⟨1, (j : Int) + 2⟩ ∧ e.c = cs j ∧ e.d = up j) ∨ (0 < j ∧ e.t = ⟨1, (j : Int)⟩ ∧ e.c = cs (j - 1) ∧ e.d = dn j)) := by
  cases map_how he with
  | rr x y q h1 h2 h3 h4 h5 h6 h7 =>
    obtain ⟨j, hj, hv, hjn⟩ := h.find h1
    obtain ⟨_, _, e3, _⟩ := h.el j x hj
    refine ⟨j, hjn, hv, ?_⟩
    rcases e3 q h2 with ⟨_, a, b, c, d⟩ | ⟨_, a, b, c, d⟩ | ⟨a, _⟩
    · exact .inl ⟨a, by rw [h4, b], by rw [h6, c], by rw [h7, d]⟩
    · exact .inr ⟨a, by rw [h4, b], by rw [h6, c], by rw [h7, d]⟩
    · omega
  | rn x y q h1 h2 h3 h4 h5 h6 h7 h8 =>
    obtain ⟨j, hj, hv, hjn⟩ := h.find h5
    rw [h4] at hv
    cases hv
  | nr x y q h1 h2 h3 h4 h5 h6 h7 =>
    obtain ⟨j, hj, hv, hjn⟩ := h.find h1
    obtain ⟨e1, _⟩ := h.el j x hj
    rw [e1] at h3
    cases h3
theorem RowL.edge_up (h : RowL n cs up dn St gs) {j : Nat} (hj : j + 1 < n) : (∃ e ∈ (mapL gs).es, e.f = ⟨1, (j : Int) + 1⟩ ∧ e.t = ⟨1, (j : Int) + 2⟩) ∧ (∃ e ∈ (mapL gs).es, e.f = ⟨1, (j : Int) + 2⟩ ∧ e.t = ⟨1, (j : Int) + 1⟩) := by
  obtain ⟨x, hx, hfx⟩ := h.find_at (j := j) (by omega)
  obtain ⟨y, hy, hfy⟩ := h.find_at hj
  rw [show (((j + 1 : Nat) : Int) + 1) = (j : Int) + 2 by omega] at hfy
  obtain ⟨_, _, _, g6, _⟩ := h.el j x hx
  obtain ⟨_, _, _, _, g7, _⟩ := h.el (j + 1) y hy
  obtain ⟨q, hq1, hq2, hq3⟩ := g6 hj
  obtain ⟨r, hr1, hr2, hr3⟩ := g7 (by omega)
  have hr3 : r.i = (j : Int) + 1 := by omega
  have mk : ∀ {u v : Int} {x y : Ls} {q r : Lk}, (⟨1, u⟩ : Vt) ∈ vertsL gs → findL gs ⟨1, u⟩ = some x → findL gs ⟨1, v⟩ = some y → q ∈ x.lk → q.k = 1 → q.i = v → r ∈ y.lk → r.k = 1 → r.i = u → ∃ e ∈ (mapL gs).es, e.f = ⟨1, u⟩ ∧ e.t = ⟨1, v⟩ := by
    intro u v x y q r hu hx hy a1 a2 a3 b1 b2 b3
    refine ⟨⟨⟨1, u⟩, ⟨1, q.i⟩, q.c, q.d⟩, List.mem_flatMap.2 ⟨⟨1, u⟩, hu, ?_⟩, rfl, by rw [a3]⟩
    unfold fromL
    rw [hx]
    refine List.mem_append_left _ (List.mem_flatMap.2 ⟨q, a1, List.mem_append_left _ ?_⟩)
    have hb : (backL y.lk 1 u).isSome = true := by
      unfold backL
      rw [List.find?_isSome]
      exact ⟨r, b1, by unfold bkP; rw [b2, b3]; simp⟩
    unfold edK1
    rw [eqB_eq, a2, a3, hy]
    simp [hb]
  exact ⟨mk (h.verts.2 ⟨j, by omega, rfl⟩) hfx hfy hq1 hq2 hq3 hr1 hr2 hr3, mk (h.verts.2 ⟨j + 1, hj, by congr 1⟩) hfy hfx hr1 hr2 hr3 hq1 hq2 hq3⟩
end
def dst (cs : Nat → Int) (r j : Nat) : Int := if r ≤ j then prs cs j - prs cs r else prs cs r - prs cs j
theorem dst_self (cs : Nat → Int) (r : Nat) : dst cs r r = 0 := by unfold dst; rw [if_pos (Nat.le_refl r)]; omega
theorem prs_mono {cs : Nat → Int} {n : Nat} (hc : ∀ j, j + 1 < n → 1 ≤ cs j ∧ cs j ≤ 256) : ∀ {i j : Nat}, i ≤ j → j < n → prs cs i ≤ prs cs j ∧ prs cs j ≤ prs cs i + 256 * ((j : Int) - i)
  | i, 0, h, _ => by
    have : i = 0 := by omega
    subst this; exact ⟨Int.le_refl _, by omega⟩
  | i, j + 1, h, hj => by
    rcases Nat.lt_or_ge i (j + 1) with h1 | h1
    · have := prs_mono hc (i := i) (j := j) (by omega) (by omega)
      have := hc j hj
      show prs cs i ≤ prs cs j + cs j ∧ prs cs j + cs j ≤ _
      omega
    · have : i = j + 1 := by omega
      subst this
      exact ⟨Int.le_refl _, by omega⟩
theorem dst_step {cs : Nat → Int} {n r : Nat} (hc : ∀ j, j + 1 < n → 1 ≤ cs j ∧ cs j ≤ 256) {j : Nat} (hj : j + 1 < n) (hr : r < n) : (r ≤ j → dst cs r (j + 1) = dst cs r j + cs j) ∧ (j < r → dst cs r j = dst cs r (j + 1) + cs j) := by
  have e : prs cs (j + 1) = prs cs j + cs j := rfl
  unfold dst
  constructor
  · intro h
    rw [if_pos h, if_pos (by omega), e]
    omega
  · intro h
    rw [if_neg (by omega)]
    by_cases h1 : r ≤ j + 1
    · have : r = j + 1 := by omega
      subst this
      rw [if_pos (Nat.le_refl _), e]
      omega
    · rw [if_neg h1, e]
      omega
section
variable {n : Nat} {cs up dn : Nat → Int} {St : Nat → Lk → Prop} {gs : List Ls} {r : Nat} {t : List Nd}
theorem RowL.costs (h : RowL n cs up dn St gs) (hc : ∀ j, j + 1 < n → 1 ≤ cs j ∧ cs j ≤ 256) : ∀ e ∈ (mapL gs).es, 0 ≤ e.c ∧ e.c ≤ 1000000 := fun e he => by
  obtain ⟨j, hj, _, (⟨a, _, b, _⟩ | ⟨a, _, b, _⟩)⟩ := h.edge he
  · have := hc j a; omega
  · have := hc (j - 1) (by omega); omega
/-- Each of the row is in the tree, at what lies between. -/
theorem RowL.at_ (h : RowL n cs up dn St gs) (hc : ∀ j, j + 1 < n → 1 ≤ cs j ∧ cs j ≤ 256) (hn : n ≤ 1000) (hr : r < n) (hT : Tr gs ⟨1, (r : Int) + 1⟩ t) : ∀ j, j < n → ∃ (a : Nat) (x : Nd), t[a]? = some x ∧ x.v = ⟨1, (j : Int) + 1⟩ ∧ x.c = dst cs r j := by
  have hes := h.costs hc
  have up1 : ∀ (j : Nat), j < n → ∃ (a : Nat) (x : Nd), t[a]? = some x ∧ x.v = ⟨1, (j : Int) + 1⟩ ∧ x.c ≤ dst cs r j := by
    have hstep : ∀ {u v : Int} {e : Eg}, e ∈ (mapL gs).es → e.f = ⟨1, u⟩ → e.t = ⟨1, v⟩ → (∃ (a : Nat) (x : Nd), t[a]? = some x ∧ x.v = ⟨1, u⟩) → ∀ {C}, (∃ (a : Nat) (x : Nd), t[a]? = some x ∧ x.v = ⟨1, u⟩ ∧ x.c ≤ C) → ∃ (a : Nat) (x : Nd), t[a]? = some x ∧ x.v = ⟨1, v⟩ ∧ x.c ≤ C + e.c := by
      rintro u v e he e1 e2 _ C ⟨a, x, hx, hxv, hxc⟩
      have hpa : placeL t e.f = some a := by rw [e1, ← hxv]; exact hT.gr.place hx
      obtain ⟨b, hb⟩ := closed hT.en he hpa
      obtain ⟨y, hy, hyv⟩ := placeL_some hb
      have := hT.gr.short soon_cheap (C := 1000000) hT.zero hT.len (by omega) hes he hx (hxv.trans e1.symm) hy hyv
      exact ⟨b, y, hy, by rw [hyv, e2], by omega⟩
    have hi : ∀ d, r + d < n → ∃ (a : Nat) (x : Nd), t[a]? = some x ∧ x.v = ⟨1, ((r + d : Nat) : Int) + 1⟩ ∧ x.c ≤ dst cs r (r + d) := by
      intro d
      induction d with
      | zero => intro _; exact ⟨0, _, hT.hd, rfl, by rw [Nat.add_zero, dst_self]; exact Int.le_refl _⟩
      | succ d ih =>
        intro hd
        obtain ⟨a, x, h1, h2, h3⟩ := ih (by omega)
        obtain ⟨⟨e, he, e1, e2⟩, _⟩ := h.edge_up (j := r + d) (by omega)
        obtain ⟨b, y, k1, k2, k3⟩ := hstep he e1 e2 ⟨a, x, h1, h2⟩ ⟨a, x, h1, h2, h3⟩
        have hec : e.c = cs (r + d) := by
          obtain ⟨j, hj, f1, f2⟩ := h.edge he
          rw [e1] at f1
          have := congrArg Vt.i f1
          simp only at this
          have hj' : j = r + d := by omega
          subst hj'
          rcases f2 with ⟨_, _, f3, _⟩ | ⟨_, f3, _⟩
          · exact f3
          · rw [e2] at f3; have := congrArg Vt.i f3; simp only at this; omega
        refine ⟨b, y, k1, by rw [k2]; congr 1, ?_⟩
        have := (dst_step hc (r := r) (j := r + d) (by omega) hr).1 (by omega)
        rw [show r + (d + 1) = r + d + 1 by omega, this, ← hec]
        exact k3
    have lo : ∀ d, d ≤ r → ∃ (a : Nat) (x : Nd), t[a]? = some x ∧ x.v = ⟨1, ((r - d : Nat) : Int) + 1⟩ ∧ x.c ≤ dst cs r (r - d) := by
      intro d
      induction d with
      | zero => intro _; exact ⟨0, _, hT.hd, rfl, by rw [Nat.sub_zero, dst_self]; exact Int.le_refl _⟩
      | succ d ih =>
        intro hd
        obtain ⟨a, x, h1, h2, h3⟩ := ih (by omega)
        obtain ⟨_, ⟨e, he, e1, e2⟩⟩ := h.edge_up (j := r - (d + 1)) (by omega)
        have h2' : x.v = ⟨1, ((r - (d + 1) : Nat) : Int) + 2⟩ := by rw [h2]; congr 1; omega
        obtain ⟨b, y, k1, k2, k3⟩ := hstep he e1 e2 ⟨a, x, h1, h2'⟩ ⟨a, x, h1, h2', h3⟩
        have hec : e.c = cs (r - (d + 1)) := by
          obtain ⟨j, hj, f1, f2⟩ := h.edge he
          rw [e1] at f1
          have := congrArg Vt.i f1
          simp only at this
          have hj' : j = r - (d + 1) + 1 := by omega
          subst hj'
          rcases f2 with ⟨_, f3, _⟩ | ⟨_, _, f3, _⟩
          · rw [e2] at f3; have := congrArg Vt.i f3; simp only at this; omega
          · rw [f3]; rfl
        refine ⟨b, y, k1, k2, ?_⟩
        have := (dst_step hc (r := r) (j := r - (d + 1)) (by omega) hr).2 (by omega)
        rw [this, ← hec, show r - (d + 1) + 1 = r - d by omega]
        exact k3
    intro j hj
    rcases Nat.le_total r j with h1 | h1
    · have := hi (j - r) (by omega)
      rwa [show r + (j - r) = j by omega] at this
    · have := lo (r - j) (by omega)
      rwa [show r - (r - j) = j by omega] at this
  -- from below
  have lw : ∀ (a : Nat) (x : Nd), t[a]? = some x → ∀ (j : Nat), x.v = ⟨1, (j : Int) + 1⟩ → j < n → dst cs r j ≤ x.c := by
    intro a
    induction a using Nat.strongRecOn with
    | _ a ih =>
      intro x hx j hv hj
      rcases Nat.eq_zero_or_pos a with rfl | ha
      · rw [hT.hd] at hx
        cases hx
        have := congrArg Vt.i hv
        have this : ((r : Int) + 1) = (j : Int) + 1 := this
        have hrj : j = r := by omega
        subst hrj
        rw [dst_self]
        exact Int.le_refl _
      · obtain ⟨e, he, p, y, hp, hy, hyv, het, _, hcn, _, _⟩ := hT.gr.edge ha hx
        obtain ⟨i, hi, f1, f2⟩ := h.edge he
        have h1 := ih p hp y hy i (by rw [hyv, f1]) hi
        obtain ⟨c1, c2⟩ := hT.gr.cost (C := 1000000) hT.zero hT.len (by omega) hes p y hy
        obtain ⟨c3, c4⟩ := hes e he
        have hpl := (List.getElem?_eq_some_iff.1 hy).1
        have hl := hT.len
        rw [hcn, wr_i64 (by omega) (by omega)]
        rw [hv] at het
        rcases f2 with ⟨g1, g2, g3, _⟩ | ⟨g1, g2, g3, _⟩
        · rw [het] at g2
          have := congrArg Vt.i g2
          simp only at this
          have hji : j = i + 1 := by omega
          subst hji
          have hs := dst_step hc (r := r) g1 hr
          have := hc i g1
          rcases Nat.lt_or_ge i r with hlt | hge
          · have := hs.2 hlt; omega
          · have := hs.1 hge; omega
        · rw [het] at g2
          have := congrArg Vt.i g2
          simp only at this
          have hji : i = j + 1 := by omega
          subst hji
          have g3 : e.c = cs j := g3
          have hs := dst_step hc (r := r) hi hr
          have := hc j hi
          rcases Nat.lt_or_ge j r with hlt | hge
          · have := hs.2 hlt; omega
          · have := hs.1 hge; omega
  intro j hj
  obtain ⟨a, x, h1, h2, h3⟩ := up1 j hj
  exact ⟨a, x, h1, h2, Int.le_antisymm h3 (lw a x h1 j h2 hj)⟩
/-- Who stands behind the root has its parent one step nearer. -/
theorem RowL.par_up (h : RowL n cs up dn St gs) (hc : ∀ j, j + 1 < n → 1 ≤ cs j ∧ cs j ≤ 256) (hn : n ≤ 1000) (hr : r < n) (hT : Tr gs ⟨1, (r : Int) + 1⟩ t) {a : Nat} {x : Nd} (hx : t[a]? = some x) {j : Nat} (hj : j + 1 < n) (hrj : r ≤ j) (hv : x.v = ⟨1, (j : Int) + 2⟩) : 0 < a ∧ ∃ y, t[par t a]? = some y ∧ y.v = ⟨1, (j : Int) + 1⟩ ∧ x.p = par t a ∧ x.d = up j := by
  have hes := h.costs hc
  have ha : 0 < a := by
    rcases Nat.eq_zero_or_pos a with rfl | ha
    · rw [hT.hd] at hx; cases hx
      have := congrArg Vt.i hv
      have this : ((r : Int) + 1) = (j : Int) + 2 := this
      omega
    · exact ha
  obtain ⟨e, he, p, y, hp, hy, hyv, het, hxp, hcn, hxd, _⟩ := hT.gr.edge ha hx
  have hpar := (par_at hT.tre ha hx).1
  have hpp : par t a = p := by omega
  refine ⟨ha, y, by rw [hpp]; exact hy, ?_, hpar, ?_⟩
  all_goals
    obtain ⟨i, hi, f1, f2⟩ := h.edge he
    obtain ⟨a1, x1, k1, k2, k3⟩ := h.at_ hc hn hr hT (j + 1) hj
    have : a1 = a := hT.gr.inj k1 hx (by rw [k2, hv]; congr 1)
    subst this
    rw [hx] at k1
    cases k1
    obtain ⟨a2, x2, m1, m2, m3⟩ := h.at_ hc hn hr hT i hi
    have : a2 = p := hT.gr.inj m1 hy (by rw [m2, hyv, f1])
    subst this
    rw [hy] at m1
    cases m1
    obtain ⟨c1, c2⟩ := hT.gr.cost (C := 1000000) hT.zero hT.len (by omega) hes a2 y hy
    obtain ⟨c3, c4⟩ := hes e he
    have hpl := (List.getElem?_eq_some_iff.1 hy).1
    have hl := hT.len
    rw [wr_i64 (by omega) (by omega)] at hcn
    rw [hv] at het
    have hij : i = j := by
      rcases f2 with ⟨g1, g2, g3, _⟩ | ⟨g1, g2, g3, _⟩
      · rw [het] at g2
        have := congrArg Vt.i g2
        simp only at this
        omega
      · rw [het] at g2
        have := congrArg Vt.i g2
        simp only at this
        have hi2 : i = j + 2 := by omega
        subst hi2
        have hs := (dst_step hc (r := r) (j := j + 1) (by omega) hr).1 (by omega)
        have hs2 := hc (j + 1) (by omega)
        have g3 : e.c = cs (j + 1) := g3
        have hs : dst cs r (j + 2) = dst cs r (j + 1) + cs (j + 1) := hs
        omega
    subst hij
  · rw [hyv, f1]
  · rcases f2 with ⟨_, _, _, g4⟩ | ⟨g1, g2, _, _⟩
    · rw [hxd, g4]
    · rw [het] at g2
      have := congrArg Vt.i g2
      simp only at this
      omega
/-- The way back. -/
theorem RowL.anc_up (h : RowL n cs up dn St gs) (hc : ∀ j, j + 1 < n → 1 ≤ cs j ∧ cs j ≤ 256) (hn : n ≤ 1000) (hr : r < n) (hT : Tr gs ⟨1, (r : Int) + 1⟩ t) {a : Nat} {x : Nd} (hx : t[a]? = some x) {j : Nat} (hj : j < n) (hrj : r ≤ j) (hv : x.v = ⟨1, (j : Int) + 1⟩) : ∀ m, m ≤ j - r → ∃ y, t[anc t a m]? = some y ∧ y.v = ⟨1, ((j - m : Nat) : Int) + 1⟩ := by
  intro m
  induction m with
  | zero => intro _; exact ⟨x, hx, hv⟩
  | succ m ih =>
    intro hm
    obtain ⟨y, hy, hyv⟩ := ih (by omega)
    obtain ⟨_, z, hz, hzv, _⟩ := h.par_up hc hn hr hT hy (j := j - (m + 1)) (by omega) (by omega) (by rw [hyv]; congr 1; omega)
    exact ⟨z, hz, hzv⟩
theorem RowL.dp (h : RowL n cs up dn St gs) (hc : ∀ j, j + 1 < n → 1 ≤ cs j ∧ cs j ≤ 256) (hn : n ≤ 1000) (hr : r < n) (hT : Tr gs ⟨1, (r : Int) + 1⟩ t) {a : Nat} {x : Nd} (hx : t[a]? = some x) {j : Nat} (hj : j < n) (hrj : r ≤ j) (hv : x.v = ⟨1, (j : Int) + 1⟩) : dep t a a = j - r := by
  have hal := (List.getElem?_eq_some_iff.1 hx).1
  obtain ⟨d1, d2⟩ := dep_spec hT.tre (Nat.le_refl a) hal
  have hA := h.anc_up hc hn hr hT hx hj hrj hv
  have h1 : anc t a (j - r) = 0 := by
    obtain ⟨y, hy, hyv⟩ := hA (j - r) (Nat.le_refl _)
    exact hT.gr.inj hy hT.hd (by rw [hyv]; show _ = (⟨1, (r : Int) + 1⟩ : Vt); congr 1; omega)
  have h2 : ¬ j - r < dep t a a := fun hlt => by have := d2 _ hlt; omega
  have h3 : ¬ dep t a a < j - r := fun hlt => by
    obtain ⟨y, hy, hyv⟩ := hA (dep t a a) (by omega)
    rw [d1, hT.hd] at hy
    cases hy
    have := congrArg Vt.i hyv
    have this : ((r : Int) + 1) = ((j - dep t a a : Nat) : Int) + 1 := this
    omega
  omega
/-- The first hop along a row. -/
theorem RowL.hop (h : RowL n cs up dn St gs) (hc : ∀ j, j + 1 < n → 1 ≤ cs j ∧ cs j ≤ 256) (hn : n ≤ 1000) (hr : r < n) (hT : Tr gs ⟨1, (r : Int) + 1⟩ t) {a : Nat} {x : Nd} (hx : t[a]? = some x) {j : Nat} (hj : j < n) (hrj : r ≤ j) (hv : x.v = ⟨1, (j : Int) + 1⟩) : hopF t a = if r = j then (0, 0) else (up r, (r : Int) + 2) := by
  have hd := h.dp hc hn hr hT hx hj hrj hv
  unfold hopF
  rw [hd]
  by_cases h0 : r = j
  · rw [if_pos (by omega), if_pos h0]
  · rw [if_neg (by omega), if_neg h0]
    obtain ⟨y, hy, hyv⟩ := h.anc_up hc hn hr hT hx hj hrj hv (j - r - 1) (by omega)
    have hyv : y.v = ⟨1, (r : Int) + 2⟩ := by rw [hyv]; congr 1; omega
    obtain ⟨_, _, _, _, _, hyd⟩ := h.par_up hc hn hr hT hy (j := r) (by omega) (Nat.le_refl _) hyv
    rw [getD_at hy, hyv, if_pos rfl, hyd]
end
end Go.Proofs.Ytmocggibcniggaa.Kt
namespace Go.Proofs.Ytmocggibcniggaa.Kt
open Go Kw Go.Proofs
set_option maxHeartbeats 4000000
set_option maxRecDepth 100000
/-! ### the routes along a row -/
theorem net10 : netF 167772160 24 = 167772160 := by kernel_rfl
theorem bits10 : bitsF 4294967040 = 24 := by kernel_rfl
theorem all_one {L : List Rt} {x : Rt} (h : ∀ y ∈ L, y = x) (hx : x ∈ L) : refR L = [x] := by
  have hT := told_ref L
  obtain ⟨z, hz, _⟩ := best_ex L x hx
  have hzm := (hT.mem z).2 hz
  have hall : ∀ y ∈ refR L, y = x := fun y hy => h y ((hT.mem y).1 hy).mem
  have hpw := hT.pw
  match hR : refR L, hall, hpw, hzm with
  | [], _, _, hzm => cases hzm
  | [y], hall, _, _ => rw [hall y (List.mem_singleton.2 rfl)]
  | y :: w :: l, hall, hpw, _ =>
    rw [List.pairwise_cons] at hpw
    have h1 := hpw.1 w (List.mem_cons_self ..)
    rw [hall y (List.mem_cons_self ..), hall w (List.mem_cons_of_mem _ (List.mem_cons_self ..))] at h1
    exact absurd h1 (pbL_irr x)
abbrev stb (c : Int) : Lk := ⟨3, 167772160, 4294967040, c⟩
theorem row_routes {n : Nat} {cs up dn : Nat → Int} {c0 : Int} {gs : List Ls} (h : RowL n cs up dn (fun j q => j + 1 = n ∧ q = stb c0) gs) (hc : ∀ j, j + 1 < n → 1 ≤ cs j ∧ cs j ≤ 256) (hn : n ≤ 1000) (h0 : 0 ≤ c0 ∧ c0 ≤ 256) {r : Nat} (hr : r < n) :
    refR (rawL gs ((r : Int) + 1)) = [⟨167772160, 24, prs cs (n - 1) - prs cs r + c0, if r = n - 1 then 0 else up r, if r = n - 1 then 0 else (r : Int) + 2⟩] := by
  have hf := h.few hn
  have hv : (⟨1, (r : Int) + 1⟩ : Vt) ∈ (mapL gs).vs := h.verts.2 ⟨r, hr, rfl⟩
  have hT := tr_of hf hv
  obtain ⟨t, ht⟩ : ∃ t, t = refTree (mapL gs) ⟨1, (r : Int) + 1⟩ := ⟨_, rfl⟩
  have hraw : rawL gs ((r : Int) + 1) = rawE t (ents (mapL gs)) := by
    show rawR (mapL gs) _ = _
    rw [raw_ents, ← ht]
  rw [← ht] at hT
  rw [hraw]
  obtain ⟨a, x, hx, hxv, hxc⟩ := h.at_ hc hn hr hT (n - 1) (by omega)
  have hpl : placeL t ⟨1, ((n - 1 : Nat) : Int) + 1⟩ = some a := by rw [← hxv]; exact hT.gr.place hx
  have hh := h.hop hc hn hr hT hx (j := n - 1) (by omega) (by omega) hxv
  have hd : dst cs r (n - 1) = prs cs (n - 1) - prs cs r := by unfold dst; rw [if_pos (by omega)]
  have hm := prs_mono hc (i := r) (j := n - 1) (by omega) (by omega)
  have hval : (⟨167772160, 24, wr .i64 ((t.getD a zNd).c + c0), (hopF t a).1, (hopF t a).2⟩ : Rt) = ⟨167772160, 24, prs cs (n - 1) - prs cs r + c0, if r = n - 1 then 0 else up r, if r = n - 1 then 0 else (r : Int) + 2⟩ := by
    rw [getD_at hx, hxc, hd, wr_i64 (by omega) (by omega), hh]
    split <;> rfl
  have hsb : ∀ s ∈ (mapL gs).sb, s = ⟨((n - 1 : Nat) : Int) + 1, 167772160, 24, c0⟩ := fun s hs => by
    have hs : s ∈ (vertsL gs).flatMap (sbF gs) := hs
    obtain ⟨v, hv, hs⟩ := List.mem_flatMap.1 hs
    obtain ⟨j, hj, rfl⟩ := h.verts.1 hv
    obtain ⟨y, hy, hfy⟩ := h.find_at hj
    have e3 := (h.el j y hy).2.2.1
    unfold sbF at hs
    split at hs
    · cases hs
    · rw [hfy] at hs
      obtain ⟨q, hq, hs⟩ := List.mem_flatMap.1 hs
      have hq : q ∈ y.lk := hq
      unfold stF at hs
      split at hs
      · rename_i hk
        rw [Bool.and_eq_true, eqB_eq] at hk
        have hk3 : q.k = 3 := of_decide_eq_true hk.1
        rcases e3 q hq with ⟨b, _⟩ | ⟨b, _⟩ | ⟨_, b1, b2⟩
        · omega
        · omega
        · rw [List.mem_singleton.1 hs, b2]
          show (⟨(j : Int) + 1, netF 167772160 (bitsF 4294967040), bitsF 4294967040, c0⟩ : Sb) = _
          rw [bits10, net10, show j = n - 1 by omega]
      · cases hs
  have hsn : (mapL gs).sn = [] := by
    show (vertsL gs).flatMap (snF gs) = []
    rw [List.flatMap_eq_nil_iff]
    intro v hv
    obtain ⟨j, hj, rfl⟩ := h.verts.1 hv
    unfold snF
    rw [show eqB (⟨1, (j : Int) + 1⟩ : Vt).k 2 = false from by rw [eqB_eq]; rfl]
  have hse : (⟨((n - 1 : Nat) : Int) + 1, 167772160, 24, c0⟩ : Sb) ∈ (mapL gs).sb := by
    show _ ∈ (vertsL gs).flatMap (sbF gs)
    refine List.mem_flatMap.2 ⟨⟨1, ((n - 1 : Nat) : Int) + 1⟩, h.verts.2 ⟨n - 1, by omega, rfl⟩, ?_⟩
    obtain ⟨y, hy, hfy⟩ := h.find_at (j := n - 1) (by omega)
    have hq := ((h.el (n - 1) y hy).2.2.2.2.2 (stb c0) ⟨by omega, rfl⟩).1
    unfold sbF
    rw [show eqB (⟨1, ((n - 1 : Nat) : Int) + 1⟩ : Vt).k 2 = false from by rw [eqB_eq]; rfl]
    show _ ∈ ((findL gs ⟨1, ((n - 1 : Nat) : Int) + 1⟩).getD zLs).lk.flatMap (stF (((n - 1 : Nat) : Int) + 1))
    rw [hfy]
    refine List.mem_flatMap.2 ⟨stb c0, hq, ?_⟩
    unfold stF
    rw [show (eqB (stb c0).k 3 && leB 0 (bitsF (stb c0).d)) = true from by rw [show (stb c0).d = 4294967040 from rfl, show (stb c0).k = 3 from rfl, bits10, eqB_eq, leB_eq]; rfl]
    show _ ∈ [(⟨_, netF 167772160 (bitsF 4294967040), bitsF 4294967040, c0⟩ : Sb)]
    rw [bits10, net10]
    exact List.mem_singleton.2 rfl
  rw [← hval]
  refine all_one (fun y hy => ?_) ?_
  · obtain ⟨e, he, b, hb, rfl⟩ := mem_rawE.1 hy
    unfold ents at he
    rw [hsn] at he
    have he : e ∈ (mapL gs).sb.map entB := he
    obtain ⟨s, hs, rfl⟩ := List.mem_map.1 he
    rw [hsb s hs] at hb ⊢
    have hb : placeL t ⟨1, ((n - 1 : Nat) : Int) + 1⟩ = some b := hb
    rw [hpl] at hb
    cases hb
    rfl
  · refine mem_rawE.2 ⟨entB ⟨((n - 1 : Nat) : Int) + 1, 167772160, 24, c0⟩, ?_, a, hpl, rfl⟩
    unfold ents
    exact List.mem_append_right _ (List.mem_map.2 ⟨_, hse, rfl⟩)
/-! ### the row as it is built -/
structure RowS (F : Nat → List Lk) (n : Nat) (gs : List Ls) : Prop where
  len : gs.length = n
  el : ∀ (j : Nat) (x : Ls), gs[j]? = some x → x = ⟨0, 1, (j : Int) + 1, (j : Int) + 1, 0, 0, 0, 0, F j, 0, [], []⟩
theorem RowS.add {F : Nat → List Lk} {n : Nat} {gs : List Ls} (h : RowS F n gs) {a : Nat} {x : Ls} (hx : gs[a]? = some x) (q : Lk) : RowS (fun j => if j = a then F j ++ [q] else F j) n (gs.set a (x.add q)) := by
  refine ⟨by rw [List.length_set]; exact h.len, fun j y hy => ?_⟩
  rcases get_set hy with ⟨rfl, rfl, _⟩ | ⟨hne, hy⟩
  · unfold Ls.add
    rw [h.el a x hx, if_pos rfl]
  · rw [if_neg (fun e => hne e.symm)]
    exact h.el j y hy
theorem RowS.congr {F F' : Nat → List Lk} {n : Nat} {gs : List Ls} (h : RowS F n gs) (hF : ∀ j, j < n → F j = F' j) : RowS F' n gs :=
  ⟨h.len, fun j x hx => by rw [← hF j (by rw [← h.len]; exact (List.getElem?_eq_some_iff.1 hx).1)]; exact h.el j x hx⟩
theorem RowS.of {n : Nat} {gs : List Ls} (h : Gs n 0 gs) : RowS (fun _ => []) n gs := ⟨h.len, fun j x hx => by
  obtain ⟨h1, _, h3⟩ := h.el j x hx
  have hn : x.lk = [] := List.eq_nil_of_length_eq_zero (by omega)
  rw [hn] at h1
  exact h1⟩
/-- The links of router j, where the first i links of the row are laid. -/
def lkR (cs : List Int) (i j : Nat) : List Lk := (if 0 < j ∧ j ≤ i then [⟨1, (j : Int), 200 + ((j - 1 : Nat) : Int), cs.getD (j - 1) 0⟩] else []) ++ (if j < i then [⟨1, (j : Int) + 2, 100 + (j : Int), cs.getD j 0⟩] else [])
theorem lkR_zero (cs : List Int) (j : Nat) : [] = lkR cs 0 j := by
  unfold lkR
  rw [if_neg (by omega), if_neg (by omega)]
  rfl
theorem lkR_step {cs : List Int} {i : Nat} {c : Int} (hc : cs[i]? = some c) (j : Nat) : (if j = i + 1 then (if j = i then lkR cs i j ++ [⟨1, (i : Int) + 2, 100 + (i : Int), c⟩] else lkR cs i j) ++ [⟨1, (i : Int) + 1, 200 + (i : Int), c⟩] else (if j = i then lkR cs i j ++ [⟨1, (i : Int) + 2, 100 + (i : Int), c⟩] else lkR cs i j)) = lkR cs (i + 1) j := by
  have hg : cs.getD i 0 = c := by rw [List.getD_eq_getElem?_getD, hc]; rfl
  by_cases h1 : j = i + 1
  · subst h1
    rw [if_pos rfl, if_neg (by omega)]
    unfold lkR
    rw [if_neg (by omega), if_neg (by omega), if_pos (by omega), if_neg (by omega), Nat.add_sub_cancel, hg]
    simp
  · rw [if_neg h1]
    by_cases h2 : j = i
    · subst h2
      rw [if_pos rfl]
      unfold lkR
      rw [if_neg (show ¬ j < j by omega), if_pos (show j < j + 1 by omega), hg, List.append_nil]
      by_cases h3 : 0 < j
      · rw [if_pos ⟨h3, Nat.le_refl _⟩, if_pos ⟨h3, by omega⟩]
      · rw [if_neg (fun h => h3 h.1), if_neg (fun h => h3 h.1)]
    · rw [if_neg h2]
      unfold lkR
      by_cases h3 : j < i
      · rw [if_pos h3, if_pos (show j < i + 1 by omega)]
        by_cases h4 : 0 < j
        · rw [if_pos ⟨h4, by omega⟩, if_pos ⟨h4, by omega⟩]
        · rw [if_neg (fun h => h4 h.1), if_neg (fun h => h4 h.1)]
      · rw [if_neg h3, if_neg (show ¬ j < i + 1 by omega), if_neg (by omega), if_neg (by omega)]
theorem lkR_row {cs : List Int} {n : Nat} (hn : cs.length + 1 = n) {c0 : Int} {gs : List Ls} (h : RowS (fun j => if j = n - 1 then lkR cs cs.length j ++ [stb c0] else lkR cs cs.length j) n gs) : RowL n (fun j => cs.getD j 0) (fun j => 100 + (j : Int)) (fun j => 200 + ((j - 1 : Nat) : Int)) (fun j q => j + 1 = n ∧ q = stb c0) gs := by
  refine ⟨h.len, fun j x hx => ?_⟩
  have hjn : j < n := by rw [← h.len]; exact (List.getElem?_eq_some_iff.1 hx).1
  have hxe := h.el j x hx
  have hlk : x.lk = if j = n - 1 then lkR cs cs.length j ++ [stb c0] else lkR cs cs.length j := by rw [hxe]
  have hmem : ∀ q, q ∈ x.lk ↔ (0 < j ∧ q = ⟨1, (j : Int), 200 + ((j - 1 : Nat) : Int), cs.getD (j - 1) 0⟩) ∨ (j + 1 < n ∧ q = ⟨1, (j : Int) + 2, 100 + (j : Int), cs.getD j 0⟩) ∨ (j + 1 = n ∧ q = stb c0) := by
    intro q
    have hR : q ∈ lkR cs cs.length j ↔ (0 < j ∧ q = ⟨1, (j : Int), 200 + ((j - 1 : Nat) : Int), cs.getD (j - 1) 0⟩) ∨ (j + 1 < n ∧ q = ⟨1, (j : Int) + 2, 100 + (j : Int), cs.getD j 0⟩) := by
      unfold lkR
      rw [List.mem_append]
      refine or_congr ?_ ?_
      · by_cases h1 : 0 < j
        · rw [if_pos ⟨h1, by omega⟩, List.mem_singleton]
          exact ⟨fun h => ⟨h1, h⟩, fun h => h.2⟩
        · rw [if_neg (fun h => h1 h.1)]
          exact ⟨fun h => (nomatch h), fun h => absurd h.1 h1⟩
      · by_cases h1 : j < cs.length
        · rw [if_pos h1, List.mem_singleton]
          exact ⟨fun h => ⟨by omega, h⟩, fun h => h.2⟩
        · rw [if_neg h1]
          exact ⟨fun h => (nomatch h), fun h => absurd h.1 (by omega)⟩
    rw [hlk]
    by_cases h1 : j = n - 1
    · rw [if_pos h1, List.mem_append, hR, List.mem_singleton, or_assoc]
      exact or_congr Iff.rfl (or_congr Iff.rfl ⟨fun h => ⟨by omega, h⟩, fun h => h.2⟩)
    · rw [if_neg h1, hR]
      exact or_congr Iff.rfl ⟨.inl, fun h => h.elim id (fun h => absurd h.1 (by omega))⟩
  refine ⟨by rw [hlk]; exact hxe, ?_, fun q hq => ?_, fun h1 => ?_, fun h1 => ?_, fun q hq => ?_⟩
  · have hl : (lkR cs cs.length j).length ≤ 2 := by
      unfold lkR
      rw [List.length_append]
      split <;> split <;> simp
    rw [hlk]
    split
    · rw [List.length_append, List.length_singleton]; omega
    · omega
  · rcases (hmem q).1 hq with ⟨a, rfl⟩ | ⟨a, rfl⟩ | ⟨a, rfl⟩
    · exact .inr (.inl ⟨rfl, a, rfl, rfl, rfl⟩)
    · exact .inl ⟨rfl, a, rfl, rfl, rfl⟩
    · exact .inr (.inr ⟨rfl, a, rfl⟩)
  · exact ⟨_, (hmem _).2 (.inr (.inl ⟨h1, rfl⟩)), rfl, rfl⟩
  · exact ⟨_, (hmem _).2 (.inl ⟨h1, rfl⟩), rfl, rfl⟩
  · obtain ⟨a, rfl⟩ := hq
    exact ⟨(hmem _).2 (.inr (.inr ⟨a, rfl⟩)), rfl⟩
end Go.Proofs.Ytmocggibcniggaa.Kt
