/- Part of the proofs of this seat's statements: what the functions compute. No condition. -/
import Derived.Test.YtmocggibcniggaaG4
import Derived.Test.YtmocggibcniggaaG3
import Derived.Test.YtmocggibcniggaaG2
set_option linter.unusedSimpArgs false
set_option linter.unusedVariables false
namespace Go.Proofs.Ytmocggibcniggaa.Kt
open Go Kw Go.Proofs
attribute [local irreducible] Kw.GI Kw.GR Kw.FnR Kw.FnX
set_option maxHeartbeats 16000000
set_option maxRecDepth 100000
/-! ### nobody wants all groups on Graph's maps -/
theorem wl_nil {l : List Ls} (h : ∀ x ∈ l, x.fl = 0) : (mapL l).wl = [] := by
  show (vertsL l).flatMap (wlF l) = []
  rw [List.flatMap_eq_nil_iff]
  intro v _
  have h0 : ((findL l v).getD zLs).fl = 0 := by
    cases hf : findL l v with
    | none => rfl
    | some x => exact h x (find_mem hf)
  have h1 : wl1 l v = [] := by
    unfold wl1
    rw [h0]
    have : notB (eqB (Go.bits .and .i64 0 8) 0) = false := by kernel_rfl
    rw [this]
  unfold wlF
  split
  · rfl
  · exact h1
theorem GrOk.fl {n : Int} {l : List Ls} (h : GrOk n l) : ∀ x ∈ l, x.fl = 0 := by
  obtain ⟨k, gs, ns, h1, rfl, h2, h3, h4⟩ := h.ex
  intro x hx
  rcases List.mem_append.1 hx with hx | hx
  · obtain ⟨j, hj⟩ := List.mem_iff_getElem?.1 hx
    rw [(h2.el j x hj).1]
  · rw [(h3 x hx).1]
/-! ### laws of what Reach answers -/
theorem isW_nil (n : Nd) : isW [] n = false := by unfold isW; rw [List.any_nil, Bool.and_false]
/-- Who is not one, and is some nets away, is at one at the least. -/
theorem Rch.one {t : List Nd} {ms : List Vt} {o : List Int} (h : Rch t [] ms o) : ∀ (j k : Nat) (n : Nd) (x : Int), t.length - k ≤ j → t[k]? = some n → o[k]? = some x → 0 ≤ x → 1 ≤ x
  | 0, k, n, x, hj, hn, _, _ => by have := (List.getElem?_eq_some_iff.1 hn).1; omega
  | j + 1, k, n, x, hj, hn, hx, h0 => by
    have hv := h.at_ k n x hn hx
    cases hm : isMb ms n with
    | true => rw [hv.me (isW_nil n) hm]; omega
    | false =>
      obtain ⟨k', m, y, hk, hm', _, hy, hy0, rfl⟩ := hv.or (isW_nil n) hm h0
      have := Rch.one h j k' m y (by omega) hm' hy hy0
      have := cK_b n m
      have := cP_b n
      omega
/-- The statement's step. -/
def stS (n m : Nd) : Int := if n.v.k = 1 ∧ m.v.k = 2 then 0 else 1
theorem stS_eq {n m : Nd} (h : m.v.k = 1 ∨ m.v.k = 2) : cK n m + cP n = stS n m := by
  unfold cK cP stS
  by_cases h1 : n.v.k = 1
  · rcases h with h | h
    · rw [if_pos ⟨h, h1⟩, if_pos h1, if_neg (fun hh => by have := hh.2; omega)]; rfl
    · rw [if_neg (fun hh => by have := hh.1; omega), if_pos h1, if_pos ⟨h1, h⟩]; rfl
  · rw [if_neg (fun hh => h1 hh.2), if_neg h1, if_neg (fun hh => h1 hh.1)]; rfl
theorem stS_b (n m : Nd) : 0 ≤ stS n m ∧ stS n m ≤ 1 := by unfold stS; split <;> omega
theorem Rch.kid {t : List Nd} {ms : List Vt} {o : List Int} (h : Rch t [] ms o) {i k : Nat} {n m : Nd} {x y : Int} (hn : t[i]? = some n) (hx : o[i]? = some x) (hik : i < k) (hm : t[k]? = some m) (hp : m.p = i) (hy : o[k]? = some y) (hk : m.v.k = 1 ∨ m.v.k = 2) (hy0 : 0 ≤ y) : 0 ≤ x ∧ x ≤ y + stS n m := by
  have hv := h.at_ i n x hn hx
  have h1 := h.one t.length k m y (by omega) hm hy hy0
  have hs := stS_b n m
  cases hmm : isMb ms n with
  | true => rw [hv.me (isW_nil n) hmm]; omega
  | false =>
    have := hv.le (isW_nil n) hmm k m y hik hm hp hy hy0
    rw [stS_eq hk] at this
    exact this
end Go.Proofs.Ytmocggibcniggaa.Kt
namespace Go.Proofs.Ytmocggibcniggaa.Kt
open Go Kw Go.Proofs
attribute [local irreducible] Kw.GI Kw.GR Kw.FnR Kw.FnX
set_option maxHeartbeats 8000000
set_option maxRecDepth 100000
/-! ### the reference's addresses -/
theorem rRight_ok (a : Int) : FnR Try.prog 59 [I a] (RB (okA a)) := by
  refine fnR_intro (T := TT) (n := 9) Try.func59 rfl rfl rfl (fun w Z => ?_)
  (repeat (first | refine r_end ?_ | (refine r_op ?_; refine r_pure hT rfl rfl rfl rfl rfl rfl ?_) | refine gi_seq ?_ | refine gi_plain ?_))
  refine r_case (d := 5) rfl (fun h => ?_) (fun h => ?_)
  · (repeat (first | refine r_end ?_ | (refine r_op ?_; refine r_pure hT rfl rfl rfl rfl rfl rfl ?_)))
    refine gi_retW hT Try.func59 rfl rfl [] rfl rfl rfl rfl ?_
    exact ⟨by unfold okA; rw [h]; rfl, rfl⟩
  · (repeat (first | refine r_end ?_ | (refine r_op ?_; first | refine r_pure hT rfl rfl rfl rfl rfl rfl ?_ | refine r_off rfl rfl rfl rfl rfl ?_)))
    refine gi_retW hT Try.func59 rfl rfl [] rfl rfl rfl rfl ?_
    exact ⟨by unfold okA; rw [h]; rfl, rfl⟩
def inR (a p b : Int) : Bool := okA a && (okA p && (leB 0 b && (leB b 32 && eqB (netF a b) (netF p b))))
theorem rIn_ok (a p b : Int) : FnR Try.prog 26 [I a, I p, I b] (RB (inR a p b)) := by
  have done : ∀ {x : Bool}, x = inR a p b → Bo x = Bo (inR a p b) := fun h => by rw [h]
  refine fnR_intro (T := TT) (n := 30) Try.func26 rfl rfl rfl (fun w Z => ?_)
  (repeat (first | refine r_end ?_ | (refine r_op ?_; refine r_pure hT rfl rfl rfl rfl rfl rfl ?_) | refine gi_seq ?_ | refine gi_plain ?_))
  refine r_call (rRight_ok a) rfl rfl rfl rfl rfl rfl rfl rfl Try.func59 rfl rfl rfl pB ?_
  rintro r S1 ⟨rfl, rfl⟩
  (repeat ((refine r_op ?_; refine r_pure hT rfl rfl rfl rfl rfl rfl ?_)))
  refine r_case (d := 9) rfl (fun h1 => ?_) (fun h1 => ?_)
  · (repeat ((refine r_op ?_; refine r_pure hT rfl rfl rfl rfl rfl rfl ?_)))
    refine r_call (rRight_ok p) rfl rfl rfl rfl rfl rfl rfl rfl Try.func59 rfl rfl rfl pB ?_
    rintro r S1 ⟨rfl, rfl⟩
    (repeat ((refine r_op ?_; refine r_pure hT rfl rfl rfl rfl rfl rfl ?_)))
    refine r_case (d := 13) rfl (fun h2 => ?_) (fun h2 => ?_)
    · (repeat ((refine r_op ?_; refine r_pure hT rfl rfl rfl rfl rfl rfl ?_)))
      refine r_case (d := 17) rfl (fun h3 => ?_) (fun h3 => ?_)
      · (repeat ((refine r_op ?_; refine r_pure hT rfl rfl rfl rfl rfl rfl ?_)))
        refine r_case (d := 21) rfl (fun h4 => ?_) (fun h4 => ?_)
        · (repeat ((refine r_op ?_; refine r_pure hT rfl rfl rfl rfl rfl rfl ?_)))
          refine r_call (Net_ok a b) rfl rfl rfl rfl rfl rfl rfl rfl Try.func27 rfl rfl rfl pI ?_
          rintro r S1 ⟨rfl, rfl⟩
          (repeat ((refine r_op ?_; refine r_pure hT rfl rfl rfl rfl rfl rfl ?_)))
          refine r_call (Net_ok p b) rfl rfl rfl rfl rfl rfl rfl rfl Try.func27 rfl rfl rfl pI ?_
          rintro r S1 ⟨rfl, rfl⟩
          (repeat (first | refine r_end ?_ | (refine r_op ?_; refine r_pure hT rfl rfl rfl rfl rfl rfl ?_)))
          refine gi_retW hT Try.func26 rfl rfl [] rfl rfl rfl rfl ?_
          exact ⟨by unfold inR; rw [h1, h2, h3, h4]; rfl, rfl⟩
        · (repeat (first | refine r_end ?_ | (refine r_op ?_; first | refine r_pure hT rfl rfl rfl rfl rfl rfl ?_ | refine r_off rfl rfl rfl rfl rfl ?_)))
          refine gi_retW hT Try.func26 rfl rfl [] rfl rfl rfl rfl ?_
          exact ⟨by unfold inR; rw [h1, h2, h3, h4]; rfl, rfl⟩
      · (repeat (first | refine r_end ?_ | (refine r_op ?_; first | refine r_pure hT rfl rfl rfl rfl rfl rfl ?_ | refine r_off rfl rfl rfl rfl rfl ?_)))
        refine gi_retW hT Try.func26 rfl rfl [] rfl rfl rfl rfl ?_
        exact ⟨by unfold inR; rw [h1, h2, h3]; rfl, rfl⟩
    · (repeat (first | refine r_end ?_ | (refine r_op ?_; first | refine r_pure hT rfl rfl rfl rfl rfl rfl ?_ | refine r_off rfl rfl rfl rfl rfl ?_)))
      refine gi_retW hT Try.func26 rfl rfl [] rfl rfl rfl rfl ?_
      exact ⟨by unfold inR; rw [h1, h2]; rfl, rfl⟩
  · (repeat (first | refine r_end ?_ | (refine r_op ?_; first | refine r_pure hT rfl rfl rfl rfl rfl rfl ?_ | refine r_off rfl rfl rfl rfl rfl ?_)))
    refine gi_retW hT Try.func26 rfl rfl [] rfl rfl rfl rfl ?_
    exact ⟨by unfold inR; rw [h1]; rfl, rfl⟩

def xSn (a : Int) (st : Src) (s : Sn) : Src := if inR a s.p s.b = true ∧ st.b < s.b then ⟨s.v, s.p, s.b, true⟩ else st
def xSb (a : Int) (st : Src) (s : Sb) : Src := if inR a s.p s.b = true ∧ st.b < s.b then ⟨⟨1, s.r⟩, s.p, s.b, true⟩ else st
def z1 : Src := ⟨⟨0, 0⟩, 0, -1, false⟩
def xrcF (a : Int) (m : Mp) : Src := m.sb.foldl (xSb a) (m.sn.foldl (xSn a) z1)
/-- What is told of it. -/
def Src.told (s : Src) : Src := if s.b < 0 then z0 else ⟨s.v, s.p, s.b, true⟩
theorem rSource_ok (m : Mp) (a : Int) (h1 : m.sn.length < 1000000) (h2 : m.sb.length < 100000000) : FnR Try.prog 17 [avMf m, I a] (fun r S => r = (xrcF a m).told.av ∧ S = []) := by
  refine fnR_intro (T := TT) (n := 83) Try.func17 rfl rfl rfl (fun w Z => ?_)
  (repeat (first | refine r_end ?_ | (refine r_op ?_; first | refine r_pure hT rfl rfl rfl rfl rfl rfl ?_ | refine r_box rfl rfl rfl rfl rfl rfl rfl rfl rfl ?_ | refine r_store hT rfl rfl rfl rfl rfl rfl rfl rfl rfl rfl ?_ | refine r_alloc hT rfl rfl rfl rfl rfl rfl rfl rfl rfl ?_) | refine gi_seq ?_ | refine gi_plain ?_ | refine gi_block ?_))
  refine gi_loop (σ := Nat × Src) (fun s => [(11, I (s.1 : Int)), (2, .box 0 0), (4, .box 1 0), (8, .box 2 0), (1, I a), (9, I s.2.p), (10, I s.2.b)]) (fun s => [hMf m, hV ⟨0, 0⟩, hV s.2.v]) (fun _ => []) (fun s => s.1 ≤ m.sn.length ∧ s.2 = (m.sn.take s.1).foldl (xSn a) z1) (fun s => m.sn.length - s.1) (0, z1) ⟨Nat.zero_le _, rfl⟩ ⟨rfl, rfl, rfl, rfl, rfl, rfl, rfl, trivial⟩ ⟨rfl, rfl, rfl, trivial⟩ trivial (fun _ => rfl) (fun s hs next => ?_)
  obtain ⟨i, st⟩ := s
  obtain ⟨hi, hst⟩ := hs
  simp only at hi hst
  (repeat (first | refine r_end ?_ | (refine r_op ?_; first | refine r_pure hT rfl rfl rfl rfl rfl rfl ?_ | refine r_load hT rfl rfl rfl rfl rfl rfl rfl rfl rfl ?_) | refine gi_seq ?_ | refine gi_plain ?_))
  refine gi_lt (p := (i : Int)) (q := ((m.sn.map Sn.row).length : Int)) rfl (fun h3 => ?_) (fun h3 => ?_)
  · rw [List.length_map] at h3
    obtain ⟨x, hx⟩ : ∃ x, m.sn[i]? = some x := ⟨_, List.getElem?_eq_getElem (by omega)⟩
    have go : ∀ st', st' = xSn a st x → ∀ F1 H1 S1, SubF [(11, I (wr .i64 ((i : Int) + 1))), (2, .box 0 0), (4, .box 1 0), (8, .box 2 0), (1, I a), (9, I st'.p), (10, I st'.b)] F1 → SubH [hMf m, hV ⟨0, 0⟩, hV st'.v] H1 → SubS [] S1 → GI _ _ F1 H1 S1 := fun st' hst' F1 H1 S1 hF hH hS => by
      refine next (i + 1, st') F1 H1 S1 ⟨by simp only; omega, by simp only; rw [foldl_tk hx, ← hst, hst']⟩ (by simp only; omega) ?_ hH hS
      rw [wr_i64 (by omega) (by omega)] at hF
      simpa using hF
    clear next
    (repeat (first | (refine r_op ?_; first | refine r_pure hT rfl rfl rfl rfl rfl rfl ?_ | refine r_load hT rfl rfl rfl rfl rfl rfl rfl rfl rfl ?_) | refine gi_seq ?_ | refine gi_plain ?_ | refine gi_skip ?_ | refine gi_block ?_))
    refine r_thaw 24 rfl ?_
    refine r_idx (row := x.row) hT rfl rfl rfl rfl rfl rfl rfl rfl rfl rfl rfl rfl (by show (0 : Int) ≤ (i : Int); omega) (by simp [hx]) ?_
    (repeat (first | refine r_end ?_ | (refine r_op ?_; first | refine r_pure hT rfl rfl rfl rfl rfl rfl ?_ | refine r_load hT rfl rfl rfl rfl rfl rfl rfl rfl rfl ?_ | refine r_store hT rfl rfl rfl rfl rfl rfl rfl rfl rfl rfl ?_ | refine r_alloc hT rfl rfl rfl rfl rfl rfl rfl rfl rfl ?_) | refine gi_seq ?_ | refine gi_plain ?_))
    refine r_call (rIn_ok a x.p x.b) rfl rfl rfl rfl rfl rfl rfl rfl Try.func26 rfl rfl rfl pB ?_
    rintro r S1 ⟨rfl, rfl⟩
    (repeat ((refine r_op ?_; refine r_pure hT rfl rfl rfl rfl rfl rfl ?_)))
    refine r_case (d := 34) rfl (fun c1 => ?_) (fun c1 => ?_)
    · (repeat (first | refine r_end ?_ | (refine r_op ?_; first | refine r_pure hT rfl rfl rfl rfl rfl rfl ?_ | refine r_load hT rfl rfl rfl rfl rfl rfl rfl rfl rfl ?_)))
      refine gi_lt rfl (fun c3 => ?_) (fun c3 => ?_)
      · have hs1 : (⟨x.v, x.p, x.b, true⟩ : Src) = xSn a st x := (if_pos ⟨c1, c3⟩).symm
        (repeat (first | refine r_end ?_ | (refine r_op ?_; first | refine r_pure hT rfl rfl rfl rfl rfl rfl ?_ | refine r_load hT rfl rfl rfl rfl rfl rfl rfl rfl rfl ?_ | refine r_store hT rfl rfl rfl rfl rfl rfl rfl rfl rfl rfl ?_) | refine gi_seq ?_ | refine gi_plain ?_ | refine gi_inBlock ?_))
        exact go _ hs1 _ _ _ ⟨rfl, rfl, rfl, rfl, rfl, rfl, rfl, trivial⟩ ⟨rfl, rfl, rfl, trivial⟩ trivial
      · have hs1 : st = xSn a st x := (if_neg (fun h => c3 h.2)).symm
        (repeat (first | refine r_end ?_ | (refine r_op ?_; refine r_pure hT rfl rfl rfl rfl rfl rfl ?_) | refine gi_plain ?_ | refine gi_skip ?_ | refine gi_inBlock ?_))
        exact go _ hs1 _ _ _ ⟨rfl, rfl, rfl, rfl, rfl, rfl, rfl, trivial⟩ ⟨rfl, rfl, rfl, trivial⟩ trivial
    · have hs1 : st = xSn a st x := (if_neg (fun h => by rw [c1] at h; cases h.1)).symm
      (repeat (first | refine r_end ?_ | (refine r_op ?_; first | refine r_pure hT rfl rfl rfl rfl rfl rfl ?_ | refine r_off rfl rfl rfl rfl rfl ?_) | refine gi_plain ?_ | refine gi_skip ?_ | refine gi_inBlock ?_ | (refine gi_cnd ?_; first | refine gi_true rfl ?_ | refine gi_false rfl ?_)))
      exact go _ hs1 _ _ _ ⟨rfl, rfl, rfl, rfl, rfl, rfl, rfl, trivial⟩ ⟨rfl, rfl, rfl, trivial⟩ trivial
  · rw [List.length_map] at h3
    have hil : i = m.sn.length := by omega
    subst hil
    rw [List.take_length] at hst
    clear next
    (repeat (first | refine r_end ?_ | (refine r_op ?_; refine r_pure hT rfl rfl rfl rfl rfl rfl ?_) | refine gi_seq ?_ | refine gi_plain ?_ | refine gi_block ?_ | refine gi_exit rfl ?_))
    refine gi_loop (σ := Nat × Src) (fun s => [(13, I (s.1 : Int)), (2, .box 0 0), (4, .box 1 0), (8, .box 2 0), (1, I a), (9, I s.2.p), (10, I s.2.b)]) (fun s => [hMf m, hV ⟨0, 0⟩, hV s.2.v]) (fun _ => []) (fun s => s.1 ≤ m.sb.length ∧ s.2 = (m.sb.take s.1).foldl (xSb a) st) (fun s => m.sb.length - s.1) (0, st) ⟨Nat.zero_le _, rfl⟩ ⟨rfl, rfl, rfl, rfl, rfl, rfl, rfl, trivial⟩ ⟨rfl, rfl, rfl, trivial⟩ trivial (fun _ => rfl) (fun s hs next => ?_)
    obtain ⟨i, su⟩ := s
    obtain ⟨hi, hsu⟩ := hs
    simp only at hi hsu
    (repeat (first | refine r_end ?_ | (refine r_op ?_; first | refine r_pure hT rfl rfl rfl rfl rfl rfl ?_ | refine r_load hT rfl rfl rfl rfl rfl rfl rfl rfl rfl ?_) | refine gi_seq ?_ | refine gi_plain ?_))
    refine gi_lt (p := (i : Int)) (q := ((m.sb.map Sb.row).length : Int)) rfl (fun h3 => ?_) (fun h3 => ?_)
    · rw [List.length_map] at h3
      obtain ⟨x, hx⟩ : ∃ x, m.sb[i]? = some x := ⟨_, List.getElem?_eq_getElem (by omega)⟩
      have go : ∀ st', st' = xSb a su x → ∀ F1 H1 S1, SubF [(13, I (wr .i64 ((i : Int) + 1))), (2, .box 0 0), (4, .box 1 0), (8, .box 2 0), (1, I a), (9, I st'.p), (10, I st'.b)] F1 → SubH [hMf m, hV ⟨0, 0⟩, hV st'.v] H1 → SubS [] S1 → GI _ _ F1 H1 S1 := fun st' hst' F1 H1 S1 hF hH hS => by
        refine next (i + 1, st') F1 H1 S1 ⟨by simp only; omega, by simp only; rw [foldl_tk hx, ← hsu, hst']⟩ (by simp only; omega) ?_ hH hS
        rw [wr_i64 (by omega) (by omega)] at hF
        simpa using hF
      clear next
      (repeat (first | (refine r_op ?_; first | refine r_pure hT rfl rfl rfl rfl rfl rfl ?_ | refine r_load hT rfl rfl rfl rfl rfl rfl rfl rfl rfl ?_) | refine gi_seq ?_ | refine gi_plain ?_ | refine gi_skip ?_ | refine gi_block ?_))
      refine r_thaw 54 rfl ?_
      refine r_idx (row := x.row) hT rfl rfl rfl rfl rfl rfl rfl rfl rfl rfl rfl rfl (by show (0 : Int) ≤ (i : Int); omega) (by simp [hx]) ?_
      (repeat (first | refine r_end ?_ | (refine r_op ?_; first | refine r_pure hT rfl rfl rfl rfl rfl rfl ?_ | refine r_load hT rfl rfl rfl rfl rfl rfl rfl rfl rfl ?_ | refine r_store hT rfl rfl rfl rfl rfl rfl rfl rfl rfl rfl ?_ | refine r_alloc hT rfl rfl rfl rfl rfl rfl rfl rfl rfl ?_) | refine gi_seq ?_ | refine gi_plain ?_))
      refine r_call (rIn_ok a x.p x.b) rfl rfl rfl rfl rfl rfl rfl rfl Try.func26 rfl rfl rfl pB ?_
      rintro r S1 ⟨rfl, rfl⟩
      (repeat ((refine r_op ?_; refine r_pure hT rfl rfl rfl rfl rfl rfl ?_)))
      refine r_case (d := 64) rfl (fun c1 => ?_) (fun c1 => ?_)
      · (repeat (first | refine r_end ?_ | (refine r_op ?_; first | refine r_pure hT rfl rfl rfl rfl rfl rfl ?_ | refine r_load hT rfl rfl rfl rfl rfl rfl rfl rfl rfl ?_)))
        refine gi_lt rfl (fun c3 => ?_) (fun c3 => ?_)
        · have hs1 : (⟨⟨1, x.r⟩, x.p, x.b, true⟩ : Src) = xSb a su x := (if_pos ⟨c1, c3⟩).symm
          (repeat (first | refine r_end ?_ | (refine r_op ?_; first | refine r_pure hT rfl rfl rfl rfl rfl rfl ?_ | refine r_load hT rfl rfl rfl rfl rfl rfl rfl rfl rfl ?_ | refine r_store hT rfl rfl rfl rfl rfl rfl rfl rfl rfl rfl ?_) | refine gi_seq ?_ | refine gi_plain ?_ | refine gi_inBlock ?_))
          exact go _ hs1 _ _ _ ⟨rfl, rfl, rfl, rfl, rfl, rfl, rfl, trivial⟩ ⟨rfl, rfl, rfl, trivial⟩ trivial
        · have hs1 : su = xSb a su x := (if_neg (fun h => c3 h.2)).symm
          (repeat (first | refine r_end ?_ | (refine r_op ?_; refine r_pure hT rfl rfl rfl rfl rfl rfl ?_) | refine gi_plain ?_ | refine gi_skip ?_ | refine gi_inBlock ?_))
          exact go _ hs1 _ _ _ ⟨rfl, rfl, rfl, rfl, rfl, rfl, rfl, trivial⟩ ⟨rfl, rfl, rfl, trivial⟩ trivial
      · have hs1 : su = xSb a su x := (if_neg (fun h => by rw [c1] at h; cases h.1)).symm
        (repeat (first | refine r_end ?_ | (refine r_op ?_; first | refine r_pure hT rfl rfl rfl rfl rfl rfl ?_ | refine r_off rfl rfl rfl rfl rfl ?_) | refine gi_plain ?_ | refine gi_skip ?_ | refine gi_inBlock ?_ | (refine gi_cnd ?_; first | refine gi_true rfl ?_ | refine gi_false rfl ?_)))
        exact go _ hs1 _ _ _ ⟨rfl, rfl, rfl, rfl, rfl, rfl, rfl, trivial⟩ ⟨rfl, rfl, rfl, trivial⟩ trivial
    · rw [List.length_map] at h3
      have hil : i = m.sb.length := by omega
      subst hil
      rw [List.take_length] at hsu
      have hfin : su = xrcF a m := by unfold xrcF; rw [hsu, hst]
      clear next
      (repeat (first | refine r_end ?_ | (refine r_op ?_; refine r_pure hT rfl rfl rfl rfl rfl rfl ?_) | refine gi_seq ?_ | refine gi_plain ?_ | refine gi_exit rfl ?_))
      refine gi_lt (q := 0) rfl (fun h4 => ?_) (fun h4 => ?_)
      · (repeat (first | refine r_end ?_ | (refine r_op ?_; first | refine r_pure hT rfl rfl rfl rfl rfl rfl ?_ | refine r_store hT rfl rfl rfl rfl rfl rfl rfl rfl rfl rfl ?_) | refine gi_seq ?_ | refine gi_plain ?_))
        refine gi_retW hT Try.func17 rfl rfl [] rfl rfl rfl rfl ?_
        exact ⟨by rw [← hfin]; unfold Src.told; rw [if_pos h4]; rfl, rfl⟩
      · (repeat (first | refine r_end ?_ | (refine r_op ?_; first | refine r_pure hT rfl rfl rfl rfl rfl rfl ?_ | refine r_load hT rfl rfl rfl rfl rfl rfl rfl rfl rfl ?_ | refine r_store hT rfl rfl rfl rfl rfl rfl rfl rfl rfl rfl ?_) | refine gi_seq ?_ | refine gi_plain ?_ | refine gi_skip ?_))
        refine gi_retW hT Try.func17 rfl rfl [] rfl rfl rfl rfl ?_
        exact ⟨by rw [← hfin]; unfold Src.told; rw [if_neg h4], rfl⟩
end Go.Proofs.Ytmocggibcniggaa.Kt
namespace Go.Proofs.Ytmocggibcniggaa.Kt
open Go Kw Go.Proofs
set_option maxHeartbeats 4000000
set_option maxRecDepth 100000
/-! ### both sides' addresses are one -/
theorem and_i64 (a b : Nat) (ha : a < 9223372036854775808) (hb : b < 9223372036854775808) : Go.bits .and .i64 (a : Int) (b : Int) = ((a &&& b : Nat) : Int) := by
  have hx : a &&& b < 2 ^ 63 := Nat.and_lt_two_pow _ (by omega)
  have h1 : (BitVec.ofInt 64 (a : Int)).toNat = a := by
    rw [BitVec.ofInt_natCast, BitVec.toNat_ofNat]; exact Nat.mod_eq_of_lt (by omega)
  have h2 : (BitVec.ofInt 64 (b : Int)).toNat = b := by
    rw [BitVec.ofInt_natCast, BitVec.toNat_ofNat]; exact Nat.mod_eq_of_lt (by omega)
  show IntKind.i64.wrap ((BitVec.ofInt 64 (a : Int) &&& BitVec.ofInt 64 (b : Int)).toNat : Int) = _
  rw [BitVec.toNat_and, h1, h2, ← wr_eq, wr_i64 (by omega) (by omega)]
def gM (n : Nat) : Int := Go.bits .and .i64 (wr .i64 (4294967295 * 2 ^ (min n 64))) 4294967295
theorem gM_all : (List.range 33).all (fun n => decide (0 ≤ gM n) && decide (gM n ≤ 4294967295)) = true := by kernel_rfl
theorem mask_b (b : Int) : 0 ≤ maskF b ∧ maskF b ≤ 4294967295 := by
  obtain ⟨h1, h2⟩ := nM_rng b
  have h3 : maskF b = gM (nM b).toNat := by unfold maskF gM; rfl
  have h4 := List.all_eq_true.1 gM_all (nM b).toNat (List.mem_range.2 (by omega))
  rw [Bool.and_eq_true] at h4
  rw [h3]
  exact ⟨of_decide_eq_true h4.1, of_decide_eq_true h4.2⟩
theorem and_all {a : Int} (h0 : 0 ≤ a) (h1 : a ≤ 4294967295) : Go.bits .and .i64 a 4294967295 = a := by
  obtain ⟨n, rfl⟩ : ∃ n : Nat, a = n := ⟨a.toNat, by omega⟩
  have := and_i64 n 4294967295 (by omega) (by omega)
  rw [show ((4294967295 : Nat) : Int) = 4294967295 from rfl] at this
  rw [this]
  have h : n &&& (2 ^ 32 - 1) = n % 2 ^ 32 := Nat.and_two_pow_sub_one_eq_mod n 32
  rw [show (2 ^ 32 - 1 : Nat) = 4294967295 by decide, show (2 ^ 32 : Nat) = 4294967296 by decide] at h
  rw [h, Nat.mod_eq_of_lt (by omega)]
theorem net_same {a : Int} (b : Int) (h0 : 0 ≤ a) (h1 : a ≤ 4294967295) : netF a b = pnetF a b := by
  unfold netF pnetF
  rw [and_all h0 h1]
theorem okA_b {a : Int} (h : okA a = true) : 0 ≤ a ∧ a ≤ 4294967295 := by
  unfold okA at h
  rw [Bool.and_eq_true, leB_eq, leB_eq] at h
  exact ⟨of_decide_eq_true h.1, of_decide_eq_true h.2⟩
theorem in_same (a p b : Int) : inR a p b = inP a p b := by
  unfold inR inP
  cases ha : okA a with
  | false => rw [Bool.false_and, Bool.false_and]
  | true =>
    cases hp : okA p with
    | false => rw [Bool.true_and, Bool.true_and, Bool.false_and, Bool.false_and]
    | true =>
      rw [net_same b (okA_b ha).1 (okA_b ha).2, net_same b (okA_b hp).1 (okA_b hp).2]
theorem in_b {a p b : Int} (h : inP a p b = true) : 0 ≤ b := by
  unfold inP at h
  rw [Bool.and_eq_true, Bool.and_eq_true, Bool.and_eq_true, leB_eq] at h
  exact of_decide_eq_true h.2.2.1
/-- Nothing yet, or the same. -/
def Bth (s z : Src) : Prop := (s = z0 ∧ z = z1) ∨ (s = z ∧ z.ok = true ∧ 0 ≤ z.b)
theorem Bth.sn {a : Int} {s z : Src} (h : Bth s z) (x : Sn) : Bth (sn1 a s x) (xSn a z x) := by
  unfold sn1 xSn
  rw [in_same]
  by_cases hi : inP a x.p x.b = true
  · have hb := in_b hi
    rcases h with ⟨rfl, rfl⟩ | ⟨rfl, h1, h2⟩
    · rw [if_pos ⟨hi, .inl rfl⟩, if_pos ⟨hi, show (-1 : Int) < x.b by omega⟩]
      exact .inr ⟨rfl, rfl, hb⟩
    · by_cases hl : s.b < x.b
      · rw [if_pos ⟨hi, .inr hl⟩, if_pos ⟨hi, hl⟩]
        exact .inr ⟨rfl, rfl, hb⟩
      · rw [if_neg (fun hh => by rcases hh.2 with hh | hh; (rw [h1] at hh; cases hh); exact hl hh), if_neg (fun hh => hl hh.2)]
        exact .inr ⟨rfl, h1, h2⟩
  · rw [if_neg (fun hh => hi hh.1), if_neg (fun hh => hi hh.1)]
    exact h
theorem Bth.sb {a : Int} {s z : Src} (h : Bth s z) (x : Sb) : Bth (sb1 a s x) (xSb a z x) := by
  unfold sb1 xSb
  rw [in_same]
  by_cases hi : inP a x.p x.b = true
  · have hb := in_b hi
    rcases h with ⟨rfl, rfl⟩ | ⟨rfl, h1, h2⟩
    · rw [if_pos ⟨hi, .inl rfl⟩, if_pos ⟨hi, show (-1 : Int) < x.b by omega⟩]
      exact .inr ⟨rfl, rfl, hb⟩
    · by_cases hl : s.b < x.b
      · rw [if_pos ⟨hi, .inr hl⟩, if_pos ⟨hi, hl⟩]
        exact .inr ⟨rfl, rfl, hb⟩
      · rw [if_neg (fun hh => by rcases hh.2 with hh | hh; (rw [h1] at hh; cases hh); exact hl hh), if_neg (fun hh => hl hh.2)]
        exact .inr ⟨rfl, h1, h2⟩
  · rw [if_neg (fun hh => hi hh.1), if_neg (fun hh => hi hh.1)]
    exact h
theorem Bth.fold {α : Type} {f g : Src → α → Src} (hfg : ∀ s z x, Bth s z → Bth (f s x) (g z x)) : ∀ (l : List α) (s z : Src), Bth s z → Bth (l.foldl f s) (l.foldl g z)
  | [], _, _, h => h
  | x :: l, s, z, h => by
    rw [List.foldl_cons, List.foldl_cons]
    exact Bth.fold hfg l _ _ (hfg s z x h)
theorem src_bth (a : Int) (m : Mp) : Bth (srcF a m) (xrcF a m) :=
  Bth.fold (fun _ _ x h => h.sb x) _ _ _ (Bth.fold (fun _ _ x h => h.sn x) _ _ _ (.inl ⟨rfl, rfl⟩))
/-- The two sides tell one. -/
theorem src_same (a : Int) (m : Mp) : (xrcF a m).told = srcF a m := by
  unfold Src.told
  rcases src_bth a m with ⟨h1, h2⟩ | ⟨h1, h2, h3⟩
  · rw [h1, h2]; rfl
  · rw [if_neg (show ¬ (xrcF a m).b < 0 by omega), h1]
    cases hx : xrcF a m with
    | mk v p b ok => rw [hx] at h2; cases h2; rfl
end Go.Proofs.Ytmocggibcniggaa.Kt
namespace Go.Proofs.Ytmocggibcniggaa.Kt
open Go Kw Go.Proofs
attribute [local irreducible] Kw.GI Kw.GR Kw.FnR Kw.FnX Kw.FnI
set_option maxHeartbeats 16000000
set_option maxRecDepth 100000
/-! ### the routes of a map, as they are laid -/
abbrev hO (k : Nat) : Option (TypeId × List AV) := some (63, [.sl k])
def putR (t : List Nd) (L : List Rt) (v : Vt) (p b c : Int) : List Rt := match placeL t v with
  | none => L
  | some at_ => L ++ [⟨p, b, wr .i64 ((t.getD at_ zNd).c + c), (hopF t at_).1, (hopF t at_).2⟩]
theorem putR_len (t : List Nd) (L : List Rt) (v : Vt) (p b c : Int) : (putR t L v p b c).length ≤ L.length + 1 := by
  unfold putR
  split
  · omega
  · simp
theorem eRt_ap (a b : List Rt) : eRt (a ++ b) = some (⟨67, 5, a.map Rt.row ++ b.map Rt.row, false⟩ : SE) := by rw [eRt, List.map_append]
theorem stLL_Rt : ∀ (l : List Rt), stLL (l.map Rt.row) = true
  | [] => rfl
  | c :: l => by
    show (stL (Rt.row c) && stLL (l.map Rt.row)) = true
    rw [stLL_Rt l]; rfl
abbrev RPut (t : List Nd) (L : List Rt) : AV → Hp → Sp → Prop := fun r H S => r = .tup [] ∧ H = [hTt t, hO 0] ∧ S = [eRt L]
theorem pPut {t : List Nd} {L : List Rt} : ∀ r H1 S1, RPut t L r H1 S1 → stA r = true ∧ StH H1 ∧ StS S1 := by
  rintro r H S ⟨rfl, rfl, rfl⟩
  refine ⟨rfl, fun e he ty cs h => ?_, fun e he s hs => ?_⟩
  · simp only [List.mem_cons, List.not_mem_nil, or_false] at he
    rcases he with rfl | rfl
    · cases h
      show (stLL (t.map Nd.row) && true) = true
      rw [stLL_Nd]; rfl
    · cases h
      rfl
  · rw [List.mem_singleton] at he
    subst he
    cases hs
    exact stLL_Rt L
theorem pCp {L : List Rt} : ∀ r H1 S1, RV1 (eRt L) r H1 S1 → stA r = true ∧ StH H1 ∧ StS S1 := by
  rintro r H S ⟨rfl, rfl, rfl⟩
  refine ⟨rfl, StH.nil, fun e he s hs => ?_⟩
  rw [List.mem_singleton] at he
  subst he
  cases hs
  exact stLL_Rt L
theorem put_ok (t : List Nd) (L : List Rt) (v : Vt) (p b c : Int) (h : Tre t) (ht : t.length < 1000000) (hL : L.length < 100000000) : FnX Try.prog 60 [v.av, I p, I b, I c, .box 0 0, .box 1 0] [hTt t, hO 0] [eRt L] (RPut t (putR t L v p b c)) := by
  refine fnX_intro (T := TT) (n := 39) Try.func60 rfl rfl rfl (fun w X Z Y B => ?_)
  (repeat (first | refine r_end ?_ | (refine r_op ?_; first | refine r_load hT rfl rfl rfl rfl rfl rfl rfl rfl rfl ?_ | refine r_box rfl rfl rfl rfl rfl rfl rfl rfl rfl ?_) | refine gi_seq ?_ | refine gi_plain ?_))
  refine r_thaw 13 rfl ?_
  refine r_call (pPlace_ok t v ht) rfl rfl rfl rfl rfl rfl rfl rfl Try.func61 rfl rfl rfl pI ?_
  rintro r S1 ⟨rfl, rfl⟩
  (repeat (first | refine r_end ?_ | (refine r_op ?_; refine r_pure hT rfl rfl rfl rfl rfl rfl ?_) | refine gi_seq ?_ | refine gi_plain ?_))
  refine gi_lt (p := placeI (placeL t v)) (q := 0) rfl (fun c1 => ?_) (fun c1 => ?_)
  · have hn : placeL t v = none := by
      cases hp : placeL t v with
      | none => rfl
      | some i => rw [hp] at c1; have c1 : (i : Int) < 0 := c1; omega
    skip
    refine gi_retX hT Try.func60 rfl [0, 1] [0] rfl rfl rfl rfl rfl rfl rfl rfl ?_
    exact ⟨rfl, rfl, by unfold putR; rw [hn]⟩
  obtain ⟨i, hi⟩ : ∃ i, placeL t v = some i := by
    cases hp : placeL t v with
    | none => rw [hp] at c1; exact absurd (show (-1 : Int) < 0 by decide) c1
    | some i => exact ⟨i, rfl⟩
  have hil := placeL_lt hi
  obtain ⟨n, hn⟩ : ∃ n, t[i]? = some n := ⟨_, List.getElem?_eq_getElem hil⟩
  have hgd : t.getD i zNd = n := by rw [List.getD_eq_getElem?_getD, hn]; rfl
  have hpi : placeI (placeL t v) = (i : Int) := by rw [hi]; rfl
  rw [hpi]
  have hput : putR t L v p b c = L ++ [⟨p, b, wr .i64 (n.c + c), (hopF t i).1, (hopF t i).2⟩] := by unfold putR; rw [hi]; simp only; rw [hgd]
  rw [hput]
  (repeat (first | (refine r_op ?_; first | refine r_pure hT rfl rfl rfl rfl rfl rfl ?_ | refine r_load hT rfl rfl rfl rfl rfl rfl rfl rfl rfl ?_) | refine gi_seq ?_ | refine gi_plain ?_ | refine gi_skip ?_))
  refine r_thaw 19 rfl ?_
  refine r_call (hop_ok t i h hil ht) rfl rfl rfl rfl rfl rfl rfl rfl Try.func62 rfl rfl rfl pHop ?_
  rintro r S1 ⟨rfl, rfl⟩
  (repeat (first | refine r_end ?_ | (refine r_op ?_; refine r_pure hT rfl rfl rfl rfl rfl rfl ?_)))
  refine gi_drawM [14, 15] [(1, .p), (2, .p), (4, .p), (8, .p), (10, .p), (11, .p), (0, .t), (3, .t), (5, .p), (6, .p), (7, .t), (9, .p), (12, .p), (13, .o), (14, .l), (15, .l)] [0, 0, 0, 0, 0, 24, 32, 64, 0, 384, 0, 0, 3590, 4096, 8193, 32767] [0, 0, 0, 0, 0, 24, 32, 64, 0, 384, 0, 0, 3590, 4096, 8193, 16384] Kt.hm rfl (by kernel_rfl) (fun w1 K => ?_)
  (repeat ((refine r_op ?_; first | refine r_pure hT rfl rfl rfl rfl rfl rfl ?_ | refine r_load hT rfl rfl rfl rfl rfl rfl rfl rfl rfl ?_)))
  refine r_thaw 27 rfl ?_
  refine r_idx (row := n.row) hT rfl rfl rfl rfl rfl rfl rfl rfl rfl rfl rfl rfl (nn i) (by simp [hn]) ?_
  (repeat ((refine r_op ?_; first | refine r_pure hT rfl rfl rfl rfl rfl rfl ?_ | refine r_load hT rfl rfl rfl rfl rfl rfl rfl rfl rfl ?_ | refine r_lit hT rfl rfl rfl rfl rfl rfl rfl rfl rfl rfl rfl rfl rfl ?_)))
  refine r_append hT rfl rfl rfl rfl rfl rfl rfl rfl rfl rfl rfl rfl rfl rfl rfl rfl rfl ?_ ?_
  · simp only [List.length_cons, List.length_nil, List.length_map, maxLen]
    constructor
    · omega
    · show _ * 40 ≤ _
      omega
  (repeat (first | refine r_end ?_ | (refine r_op ?_; refine r_store hT rfl rfl rfl rfl rfl rfl rfl rfl rfl rfl ?_)))
  refine gi_finX hT Try.func60 rfl [0, 1] [0] rfl rfl rfl rfl rfl rfl rfl rfl ?_
  exact ⟨rfl, rfl, by rw [eRt_ap]; rfl⟩
/-- The routes as they are laid: of the Spans, of the Stubs. -/
def rawS (t : List Nd) (l : List Sn) (L : List Rt) : List Rt := l.foldl (fun L s => putR t L s.v s.p s.b 0) L
def rawB (t : List Nd) (l : List Sb) (L : List Rt) : List Rt := l.foldl (fun L s => putR t L ⟨1, s.r⟩ s.p s.b s.c) L
def rawR (m : Mp) (t : List Nd) : List Rt := rawB t m.sb (rawS t m.sn [])
theorem rawS_len (t : List Nd) : ∀ (l : List Sn) (L : List Rt), (rawS t l L).length ≤ L.length + l.length
  | [], L => Nat.le_refl _
  | s :: l, L => by
    have := rawS_len t l (putR t L s.v s.p s.b 0)
    have := putR_len t L s.v s.p s.b 0
    show (rawS t l (putR t L s.v s.p s.b 0)).length ≤ _
    rw [List.length_cons]
    omega
theorem rawB_len (t : List Nd) : ∀ (l : List Sb) (L : List Rt), (rawB t l L).length ≤ L.length + l.length
  | [], L => Nat.le_refl _
  | s :: l, L => by
    have := rawB_len t l (putR t L ⟨1, s.r⟩ s.p s.b s.c)
    have := putR_len t L ⟨1, s.r⟩ s.p s.b s.c
    show (rawB t l (putR t L ⟨1, s.r⟩ s.p s.b s.c)).length ≤ _
    rw [List.length_cons]
    omega
/-- What is told: sorted, of each net the first. -/
def RtOk (L L' : List Rt) : Prop := ∃ q, Seg 0 L.length L q ∧ Srt 0 L.length q ∧ L' = cpL q
abbrev fsRt (l : List Rt) : AV := .r (.fs 5 (l.map Rt.row))
abbrev RRts (L : List Rt) : AV → Hp → Sp → Prop := fun r H S => H = [] ∧ S = [] ∧ ∃ L', r = fsRt L' ∧ RtOk L L'
theorem Routes_ok (l : List Ls) (self : Int) (hf : Few l) (hT0 : Tre (refTree (mapL l) ⟨1, self⟩)) : FnX Try.prog 30 [avMf (mapL l), I self] [] [] (RRts (rawR (mapL l) (refTree (mapL l) ⟨1, self⟩))) := by
  obtain ⟨t, ht⟩ : ∃ t, t = refTree (mapL l) ⟨1, self⟩ := ⟨_, rfl⟩
  have htl := tree_lt hf ⟨1, self⟩
  have hvl : (vertsL l).length ≤ 2000 := map_vs hf
  have hsn : (mapL l).sn.length ≤ 2000 := by
    have := flat_len (snF_len l) (vertsL l)
    show ((vertsL l).flatMap (snF l)).length ≤ _
    omega
  have hsb : (mapL l).sb.length ≤ 2000000 := by
    have := flat_len (fun v => sbF_len hf v) (vertsL l)
    show ((vertsL l).flatMap (sbF l)).length ≤ _
    omega
  have htree := pTreeL l ⟨1, self⟩ hf
  rw [← ht] at hT0 htl htree
  rw [← ht]
  generalize mapL l = m at hsn hsb htree
  refine fnX_intro (T := TT) (n := 62) Try.func30 rfl rfl rfl (fun w X Z Y B => ?_)
  (repeat (first | refine r_end ?_ | (refine r_op ?_; first | refine r_pure hT rfl rfl rfl rfl rfl rfl ?_ | refine r_load hT rfl rfl rfl rfl rfl rfl rfl rfl rfl ?_ | refine r_box rfl rfl rfl rfl rfl rfl rfl rfl rfl ?_) | refine gi_seq ?_ | refine gi_plain ?_))
  refine r_call (htree) rfl rfl rfl rfl rfl rfl rfl rfl Try.func49 rfl rfl rfl pT1 ?_
  rintro r S1 ⟨rfl, rfl⟩
  (repeat (first | refine r_end ?_ | (refine r_op ?_; first | refine r_store hT rfl rfl rfl rfl rfl rfl rfl rfl rfl rfl ?_ | refine r_alloc hT rfl rfl rfl rfl rfl rfl rfl rfl rfl ?_) | refine gi_seq ?_))
  refine gi_freeze 0 (L' := t.map Nd.row) rfl rfl ?_
  refine gi_weak (F' := [(2, .box 0 0), (5, .box 1 0)]) (H' := [hMf m, hTt t]) (S' := []) ⟨rfl, rfl, trivial⟩ ⟨rfl, rfl, trivial⟩ trivial rfl ?_
  (repeat (first | refine r_end ?_ | (refine r_op ?_; first | refine r_pure hT rfl rfl rfl rfl rfl rfl ?_ | refine r_load hT rfl rfl rfl rfl rfl rfl rfl rfl rfl ?_ | refine r_alloc hT rfl rfl rfl rfl rfl rfl rfl rfl rfl ?_) | refine gi_seq ?_ | refine gi_plain ?_ | refine gi_block ?_))
  refine gi_adoptH (e := 67) (sz := 5) 2 0 rfl rfl ?_
  refine gi_thaw 18 rfl ?_
  refine gi_loop (σ := Nat) (fun i => [(20, I (i : Int)), (19, I (m.sn.length : Int)), (18, rsSn m.sn), (7, .fn 60 [.box 1 0, .box 2 0]), (2, .box 0 0), (6, .box 2 0)]) (fun _ => [hMf m, hTt t, hO 0]) (fun i => [eRt (rawS t (m.sn.take i) [])]) (fun i => i ≤ m.sn.length) (fun i => m.sn.length - i) 0 (Nat.zero_le _) ⟨rfl, by show some (I (((m.sn.map Sn.row).length : Nat) : Int)) = _; rw [List.length_map], rfl, rfl, rfl, rfl, trivial⟩ ⟨rfl, rfl, rfl, trivial⟩ ⟨rfl, trivial⟩ (fun _ => rfl) (fun i hi next => ?_)
  have hi : i ≤ m.sn.length := hi
  have hrl := rawS_len t (m.sn.take i) []
  rw [List.length_take, List.length_nil] at hrl
  (repeat (first | refine r_end ?_ | (refine r_op ?_; refine r_pure hT rfl rfl rfl rfl rfl rfl ?_) | refine gi_seq ?_ | refine gi_plain ?_))
  refine gi_lt (p := (i : Int)) (q := (m.sn.length : Int)) rfl (fun h3 => ?_) (fun h3 => ?_)
  · obtain ⟨s, hs⟩ : ∃ s, m.sn[i]? = some s := ⟨_, List.getElem?_eq_getElem (by omega)⟩
    have hstep : rawS t (m.sn.take (i + 1)) [] = putR t (rawS t (m.sn.take i) []) s.v s.p s.b 0 := foldl_tk hs
    generalize rawS t (m.sn.take i) [] = L at hrl hstep
    (repeat (first | refine gi_seq ?_ | refine gi_plain ?_ | refine gi_skip ?_ | refine gi_block ?_))
    refine r_idx (row := s.row) hT rfl rfl rfl rfl rfl rfl rfl rfl rfl rfl rfl rfl (nn i) (by simp [hs]) ?_
    (repeat (first | refine r_end ?_ | (refine r_op ?_; first | refine r_pure hT rfl rfl rfl rfl rfl rfl ?_ | refine r_load hT rfl rfl rfl rfl rfl rfl rfl rfl rfl ?_ | refine r_store hT rfl rfl rfl rfl rfl rfl rfl rfl rfl rfl ?_ | refine r_alloc hT rfl rfl rfl rfl rfl rfl rfl rfl rfl ?_) | refine gi_plain ?_))
    refine r_callX [1, 2] [0] (put_ok t L s.v s.p s.b 0 hT0 htl (by omega)) rfl rfl rfl rfl rfl rfl Try.func60 rfl rfl rfl rfl rfl rfl rfl pPut ?_
    rintro r H1 S1 ⟨rfl, rfl, rfl⟩
    (repeat (first | refine r_end ?_ | (refine r_op ?_; refine r_pure hT rfl rfl rfl rfl rfl rfl ?_) | refine gi_plain ?_ | refine gi_inBlock ?_))
    refine gi_pick [0, 1, 2] [1] rfl rfl rfl rfl rfl ?_
    refine next (i + 1) _ _ _ (by omega) (by omega) ⟨?_, rfl, rfl, rfl, rfl, rfl, trivial⟩ ⟨rfl, rfl, rfl, trivial⟩ ⟨by rw [hstep], trivial⟩
    show some (I (wr .i64 ((i : Int) + 1))) = _
    rw [wadd1 (by omega)]
  have hin : i = m.sn.length := by omega
  subst hin
  clear next
  rw [List.take_length] at hrl
  rw [List.take_length]
  obtain ⟨L0, hL0⟩ : ∃ L0, L0 = rawS t m.sn [] := ⟨_, rfl⟩
  rw [← hL0] at hrl
  rw [← hL0]
  (repeat (first | refine r_end ?_ | (refine r_op ?_; first | refine r_pure hT rfl rfl rfl rfl rfl rfl ?_ | refine r_load hT rfl rfl rfl rfl rfl rfl rfl rfl rfl ?_) | refine gi_seq ?_ | refine gi_plain ?_ | refine gi_block ?_ | refine gi_exit rfl ?_))
  refine gi_thaw 34 rfl ?_
  refine gi_loop (σ := Nat) (fun i => [(36, I (i : Int)), (35, I (m.sb.length : Int)), (34, rsSb m.sb), (7, .fn 60 [.box 1 0, .box 2 0]), (6, .box 2 0)]) (fun _ => [hMf m, hTt t, hO 0]) (fun i => [eRt (rawB t (m.sb.take i) L0)]) (fun i => i ≤ m.sb.length) (fun i => m.sb.length - i) 0 (Nat.zero_le _) ⟨rfl, by show some (I (((m.sb.map Sb.row).length : Nat) : Int)) = _; rw [List.length_map], rfl, rfl, rfl, trivial⟩ ⟨rfl, rfl, rfl, trivial⟩ ⟨rfl, trivial⟩ (fun _ => rfl) (fun i hi next => ?_)
  have hi : i ≤ m.sb.length := hi
  have hrb := rawB_len t (m.sb.take i) L0
  rw [List.length_take] at hrb
  (repeat (first | refine r_end ?_ | (refine r_op ?_; refine r_pure hT rfl rfl rfl rfl rfl rfl ?_) | refine gi_seq ?_ | refine gi_plain ?_))
  refine gi_lt (p := (i : Int)) (q := (m.sb.length : Int)) rfl (fun h3 => ?_) (fun h3 => ?_)
  · obtain ⟨s, hs⟩ : ∃ s, m.sb[i]? = some s := ⟨_, List.getElem?_eq_getElem (by omega)⟩
    have hstep : rawB t (m.sb.take (i + 1)) L0 = putR t (rawB t (m.sb.take i) L0) ⟨1, s.r⟩ s.p s.b s.c := foldl_tk hs
    generalize rawB t (m.sb.take i) L0 = L at hrb hstep
    (repeat (first | refine gi_seq ?_ | refine gi_plain ?_ | refine gi_skip ?_ | refine gi_block ?_))
    refine r_idx (row := s.row) hT rfl rfl rfl rfl rfl rfl rfl rfl rfl rfl rfl rfl (nn i) (by simp [hs]) ?_
    (repeat (first | refine r_end ?_ | (refine r_op ?_; first | refine r_pure hT rfl rfl rfl rfl rfl rfl ?_ | refine r_load hT rfl rfl rfl rfl rfl rfl rfl rfl rfl ?_ | refine r_store hT rfl rfl rfl rfl rfl rfl rfl rfl rfl rfl ?_ | refine r_alloc hT rfl rfl rfl rfl rfl rfl rfl rfl rfl ?_) | refine gi_plain ?_))
    refine r_callX [1, 2] [0] (put_ok t L ⟨1, s.r⟩ s.p s.b s.c hT0 htl (by omega)) rfl rfl rfl rfl rfl rfl Try.func60 rfl rfl rfl rfl rfl rfl rfl pPut ?_
    rintro r H1 S1 ⟨rfl, rfl, rfl⟩
    (repeat (first | refine r_end ?_ | (refine r_op ?_; refine r_pure hT rfl rfl rfl rfl rfl rfl ?_) | refine gi_plain ?_ | refine gi_inBlock ?_))
    refine gi_pick [0, 1, 2] [1] rfl rfl rfl rfl rfl ?_
    refine next (i + 1) _ _ _ (by omega) (by omega) ⟨?_, rfl, rfl, rfl, rfl, trivial⟩ ⟨rfl, rfl, rfl, trivial⟩ ⟨by rw [hstep], trivial⟩
    show some (I (wr .i64 ((i : Int) + 1))) = _
    rw [wadd1 (by omega)]
  have hin : i = m.sb.length := by omega
  subst hin
  clear next
  rw [List.take_length] at hrb
  rw [List.take_length]
  have hraw : rawB t m.sb L0 = rawR m t := by unfold rawR; rw [hL0]
  rw [hraw] at hrb
  rw [hraw]
  generalize rawR m t = L at hrb
  (repeat (first | (refine r_op ?_; refine r_load hT rfl rfl rfl rfl rfl rfl rfl rfl rfl ?_) | refine gi_seq ?_ | refine gi_plain ?_ | refine gi_exit rfl ?_))
  refine r_callI 0 (sortS_ok L (by omega)) rfl rfl rfl rfl rfl rfl Try.func63 rfl rfl rfl rfl ?_
  rintro L' hl' ⟨q, rfl, g1, g2⟩
  have hq := g1.len
  (repeat (first | refine r_end ?_ | (refine r_op ?_; refine r_load hT rfl rfl rfl rfl rfl rfl rfl rfl rfl ?_) | refine gi_seq ?_ | refine gi_plain ?_))
  refine r_callX [] [0] (cp_ok q (by omega)) rfl rfl rfl rfl rfl rfl Try.func67 rfl rfl rfl rfl rfl rfl rfl pCp ?_
  rintro r H1 S1 ⟨rfl, rfl, rfl⟩
  (repeat (first | refine r_end ?_ | (refine r_op ?_; refine r_store hT rfl rfl rfl rfl rfl rfl rfl rfl rfl rfl ?_) | refine gi_seq ?_))
  refine gi_pick [0, 1, 2] [1] rfl rfl rfl rfl rfl ?_
  refine gi_freeze 0 (L' := (cpL q).map Rt.row) rfl rfl ?_
  (repeat (first | (refine r_op ?_; first | refine r_pure hT rfl rfl rfl rfl rfl rfl ?_ | refine r_load hT rfl rfl rfl rfl rfl rfl rfl rfl rfl ?_) | refine gi_plain ?_))
  refine r_slice3F hT rfl rfl rfl rfl rfl rfl rfl rfl rfl rfl rfl rfl ?_
  (repeat (first | refine r_end ?_ | (refine r_op ?_; refine r_pure hT rfl rfl rfl rfl rfl rfl ?_)))
  refine gi_retX hT Try.func30 rfl [] [] rfl rfl rfl rfl rfl rfl rfl rfl ?_
  exact ⟨rfl, rfl, _, rfl, q, g1, g2, rfl⟩
end Go.Proofs.Ytmocggibcniggaa.Kt
namespace Go.Proofs.Ytmocggibcniggaa.Kt
open Go Kw Go.Proofs
attribute [local irreducible] Kw.GI Kw.GR Kw.FnR Kw.FnX Kw.FnI
set_option maxHeartbeats 16000000
set_option maxRecDepth 100000
/-! ### the route to an address -/
def zRt : Rt := ⟨0, 0, 0, 0, 0⟩
def fd1 (a : Int) (m : Option (Nat × Rt)) (i : Nat) (x : Rt) : Option (Nat × Rt) := match inP a x.p x.b with
  | true => (match m with
    | none => some (i, x)
    | some (j, y) => (match ltB y.b x.b with
      | true => some (i, x)
      | false => some (j, y)))
  | false => m
def fndN (l : List Rt) (a : Int) : Nat → Option (Nat × Rt)
  | 0 => none
  | i + 1 => match l[i]? with
    | some x => fd1 a (fndN l a i) i x
    | none => fndN l a i
def fdI : Option (Nat × Rt) → Int
  | none => -1
  | some (i, _) => i
def findF (l : List Rt) (a : Int) : Rt × Bool := match fndN l a l.length with
  | none => (zRt, false)
  | some (_, x) => (x, true)
theorem fnd_step {l : List Rt} {a : Int} {i : Nat} {x : Rt} (h : l[i]? = some x) : fndN l a (i + 1) = fd1 a (fndN l a i) i x := by rw [fndN, h]
theorem fnd_at {l : List Rt} {a : Int} : ∀ {i j : Nat} {x : Rt}, fndN l a i = some (j, x) → l[j]? = some x ∧ j < i
  | 0, j, x, h => by cases h
  | i + 1, j, x, h => by
    unfold fndN at h
    cases hy : l[i]? with
    | none =>
      rw [hy] at h
      obtain ⟨h1, h2⟩ := fnd_at (i := i) h
      exact ⟨h1, by omega⟩
    | some y =>
      rw [hy] at h
      unfold fd1 at h
      simp only at h
      split at h
      · split at h
        · cases h; exact ⟨hy, by omega⟩
        · rename_i q k z hq
          split at h
          · cases h; exact ⟨hy, by omega⟩
          · cases h
            obtain ⟨h1, h2⟩ := fnd_at (i := i) hq
            exact ⟨h1, by omega⟩
      · obtain ⟨h1, h2⟩ := fnd_at (i := i) h
        exact ⟨h1, by omega⟩
abbrev RFd (x : Rt × Bool) : AV → Sp → Prop := fun r S => r = .tup [x.1.av, Bo x.2] ∧ S = []
theorem pFdR {x : Rt × Bool} : ∀ r S1, (r = .tup [x.1.av, Bo x.2] ∧ S1 = []) → plainA r = true ∧ PlainS S1 := pA rfl
abbrev zRtC : List AV := [I 0, I 0, I 0, I 0, I 0]
theorem pFind_ok (l : List Rt) (a : Int) (hl : l.length < 100000000) : FnR Try.prog 33 [rsRt l, I a] (RFd (findF l a)) := by
  refine fnR_intro (T := TT) (n := 45) Try.func33 rfl rfl rfl (fun w Z => ?_)
  (repeat (first | refine r_end ?_ | (refine r_op ?_; first | refine r_pure hT rfl rfl rfl rfl rfl rfl ?_ | refine r_alloc hT rfl rfl rfl rfl rfl rfl rfl rfl rfl ?_) | refine gi_seq ?_ | refine gi_plain ?_ | refine gi_block ?_))
  refine gi_loop (σ := Nat) (fun i => [(11, I (i : Int)), (10, I (l.length : Int)), (9, rsRt l), (6, I (fdI (fndN l a i))), (0, rsRt l), (1, I a), (4, .box 0 0)]) (fun _ => [some (67, zRtC)]) (fun _ => []) (fun i => i ≤ l.length) (fun i => l.length - i) 0 (Nat.zero_le _) ⟨rfl, by show some (I (((l.map Rt.row).length : Nat) : Int)) = _; rw [List.length_map], rfl, rfl, rfl, rfl, rfl, trivial⟩ ⟨rfl, trivial⟩ trivial (fun _ => rfl) (fun i hi next => ?_)
  have hi : i ≤ l.length := hi
  (repeat (first | refine r_end ?_ | (refine r_op ?_; refine r_pure hT rfl rfl rfl rfl rfl rfl ?_) | refine gi_seq ?_ | refine gi_plain ?_))
  refine gi_lt (p := (i : Int)) (q := (l.length : Int)) rfl (fun h3 => ?_) (fun h3 => ?_)
  · obtain ⟨x, hx⟩ : ∃ x, l[i]? = some x := ⟨_, List.getElem?_eq_getElem (by omega)⟩
    have hst := fnd_step (a := a) hx
    have hat := fun j y h => fnd_at (l := l) (a := a) (i := i) (j := j) (x := y) h
    have on : ∀ m', fndN l a (i + 1) = m' → ∀ F1 H1 S1, SubF [(11, I (wr .i64 ((i : Int) + 1))), (10, I (l.length : Int)), (9, rsRt l), (6, I (fdI m')), (0, rsRt l), (1, I a), (4, .box 0 0)] F1 → SubH [some (67, zRtC)] H1 → SubS [] S1 → GI _ _ F1 H1 S1 := fun m' hm' F1 H1 S1 hF hH hS => by
      refine next (i + 1) F1 H1 S1 (by omega) (by omega) ?_ hH hS
      rw [wadd1 (by omega)] at hF
      rw [hm']
      exact hF
    clear next
    generalize fndN l a i = m at hst hat
    unfold fd1 at hst
    (repeat (first | (refine r_op ?_; refine r_pure hT rfl rfl rfl rfl rfl rfl ?_) | refine gi_seq ?_ | refine gi_plain ?_ | refine gi_skip ?_ | refine gi_block ?_))
    refine r_idx (row := x.row) hT rfl rfl rfl rfl rfl rfl rfl rfl rfl rfl rfl rfl (nn i) (by simp [hx]) ?_
    (repeat (first | refine r_end ?_ | (refine r_op ?_; first | refine r_pure hT rfl rfl rfl rfl rfl rfl ?_ | refine r_load hT rfl rfl rfl rfl rfl rfl rfl rfl rfl ?_ | refine r_store hT rfl rfl rfl rfl rfl rfl rfl rfl rfl rfl ?_ | refine r_alloc hT rfl rfl rfl rfl rfl rfl rfl rfl rfl ?_) | refine gi_seq ?_))
    refine gi_drawM [] [(0, .p), (1, .p), (3, .p), (2, .t), (4, .t), (5, .o), (6, .p), (7, .p), (8, .p), (9, .p), (10, .p), (12, .p), (13, .p), (14, .p), (15, .p), (11, .t), (16, .t), (17, .p), (18, .p), (19, .p)] [0, 0, 2, 0, 8, 21, 32, 64, 192, 320, 512, 1536, 512, 512, 12800, 16896, 33280, 68096, 131648, 262208] [0, 0, 2, 0, 8, 21, 32, 64, 192, 320, 512, 1536, 512, 512, 12800, 16896, 33280, 68096, 131648, 262208] Kt.hm rfl (by kernel_rfl) (fun w1 K => ?_)
    (repeat ((refine r_op ?_; first | refine r_pure hT rfl rfl rfl rfl rfl rfl ?_ | refine r_load hT rfl rfl rfl rfl rfl rfl rfl rfl rfl ?_)))
    refine r_call (In_ok a x.p x.b) rfl rfl rfl rfl rfl rfl rfl rfl Try.func48 rfl rfl rfl pB ?_
    rintro r S1 ⟨rfl, rfl⟩
    (repeat ((refine r_op ?_; refine r_pure hT rfl rfl rfl rfl rfl rfl ?_)))
    refine r_case (d := 22) rfl (fun c1 => ?_) (fun c1 => ?_)
    · rw [c1] at hst
      simp only at hst
      cases m with
      | none =>
        (repeat ((refine r_op ?_; refine r_pure hT rfl rfl rfl rfl rfl rfl ?_)))
        refine r_known (d := 25) (b := true) rfl (by rw [ltB_eq]; rfl) ?_
        (repeat (first | refine r_end ?_ | (refine r_op ?_; first | refine r_pure hT rfl rfl rfl rfl rfl rfl ?_ | refine r_off rfl rfl rfl rfl rfl ?_) | refine gi_plain ?_ | refine gi_inBlock ?_ | (refine gi_cnd ?_; first | refine gi_true rfl ?_ | refine gi_false rfl ?_)))
        exact on _ hst _ _ _ ⟨rfl, rfl, rfl, rfl, rfl, rfl, rfl, trivial⟩ ⟨rfl, trivial⟩ trivial
      | some q =>
        obtain ⟨j, y⟩ := q
        obtain ⟨hy, hj⟩ := hat j y rfl
        simp only at hst
        (repeat ((refine r_op ?_; refine r_pure hT rfl rfl rfl rfl rfl rfl ?_)))
        refine r_known (d := 25) (b := false) rfl (by rw [ltB_eq]; exact decide_eq_false (by show ¬ (j : Int) < 0; omega)) ?_
        (repeat ((refine r_op ?_; refine r_pure hT rfl rfl rfl rfl rfl rfl ?_)))
        refine r_idx (row := y.row) (j := (j : Int)) hT rfl rfl rfl rfl rfl rfl rfl rfl rfl rfl rfl rfl (nn j) (by simp [hy]) ?_
        (repeat (first | refine r_end ?_ | (refine r_op ?_; first | refine r_pure hT rfl rfl rfl rfl rfl rfl ?_ | refine r_load hT rfl rfl rfl rfl rfl rfl rfl rfl rfl ?_)))
        refine gi_cond rfl (fun c2 => ?_) (fun c2 => ?_)
        · rw [c2] at hst
          (repeat (first | refine r_end ?_ | (refine r_op ?_; refine r_pure hT rfl rfl rfl rfl rfl rfl ?_) | refine gi_plain ?_ | refine gi_inBlock ?_))
          exact on _ hst _ _ _ ⟨rfl, rfl, rfl, rfl, rfl, rfl, rfl, trivial⟩ ⟨rfl, trivial⟩ trivial
        · rw [c2] at hst
          (repeat (first | refine r_end ?_ | (refine r_op ?_; refine r_pure hT rfl rfl rfl rfl rfl rfl ?_) | refine gi_plain ?_ | refine gi_skip ?_ | refine gi_inBlock ?_))
          exact on _ hst _ _ _ ⟨rfl, rfl, rfl, rfl, rfl, rfl, rfl, trivial⟩ ⟨rfl, trivial⟩ trivial
    · rw [c1] at hst
      (repeat (first | refine r_end ?_ | (refine r_op ?_; first | refine r_pure hT rfl rfl rfl rfl rfl rfl ?_ | refine r_off rfl rfl rfl rfl rfl ?_) | refine gi_plain ?_ | refine gi_skip ?_ | refine gi_inBlock ?_ | (refine gi_cnd ?_; first | refine gi_true rfl ?_ | refine gi_false rfl ?_)))
      exact on _ hst _ _ _ ⟨rfl, rfl, rfl, rfl, rfl, rfl, rfl, trivial⟩ ⟨rfl, trivial⟩ trivial
  · have hil : i = l.length := by omega
    subst hil
    unfold findF
    have hat := fun j y h => fnd_at (l := l) (a := a) (i := l.length) (j := j) (x := y) h
    generalize fndN l a l.length = m at hat
    cases m with
    | none =>
      (repeat (first | refine r_end ?_ | (refine r_op ?_; refine r_pure hT rfl rfl rfl rfl rfl rfl ?_) | refine gi_seq ?_ | refine gi_plain ?_ | refine gi_exit rfl ?_))
      refine gi_known (d := 39) (b := true) rfl (by rw [ltB_eq]; rfl) ?_
      (repeat (first | refine r_end ?_ | (refine r_op ?_; first | refine r_pure hT rfl rfl rfl rfl rfl rfl ?_ | refine r_store hT rfl rfl rfl rfl rfl rfl rfl rfl rfl rfl ?_) | refine gi_seq ?_ | refine gi_plain ?_ | (refine gi_cnd ?_; first | refine gi_true rfl ?_ | refine gi_false rfl ?_)))
      refine gi_retW hT Try.func33 rfl rfl [] rfl rfl rfl rfl ?_
      exact ⟨rfl, rfl⟩
    | some q =>
      obtain ⟨j, y⟩ := q
      obtain ⟨hy, hj⟩ := hat j y rfl
      (repeat (first | refine r_end ?_ | (refine r_op ?_; refine r_pure hT rfl rfl rfl rfl rfl rfl ?_) | refine gi_seq ?_ | refine gi_plain ?_ | refine gi_exit rfl ?_))
      refine gi_known (d := 39) (b := false) rfl (by rw [ltB_eq]; exact decide_eq_false (by show ¬ (j : Int) < 0; omega)) ?_
      (repeat (first | (refine r_op ?_; refine r_pure hT rfl rfl rfl rfl rfl rfl ?_) | refine gi_seq ?_ | refine gi_plain ?_ | refine gi_skip ?_ | (refine gi_cnd ?_; first | refine gi_true rfl ?_ | refine gi_false rfl ?_)))
      refine r_idx (row := y.row) (j := (j : Int)) hT rfl rfl rfl rfl rfl rfl rfl rfl rfl rfl rfl rfl (nn j) (by simp [hy]) ?_
      (repeat (first | refine r_end ?_ | (refine r_op ?_; first | refine r_pure hT rfl rfl rfl rfl rfl rfl ?_ | refine r_load hT rfl rfl rfl rfl rfl rfl rfl rfl rfl ?_ | refine r_store hT rfl rfl rfl rfl rfl rfl rfl rfl rfl rfl ?_)))
      refine gi_retW hT Try.func33 rfl rfl [] rfl rfl rfl rfl ?_
      exact ⟨rfl, rfl⟩
theorem rFind_ok (l : List Rt) (a : Int) (hl : l.length < 100000000) : FnR Try.prog 34 [rsRt l, I a] (RFd (findF l a)) := by
  refine fnR_intro (T := TT) (n := 51) Try.func34 rfl rfl rfl (fun w Z => ?_)
  (repeat (first | refine r_end ?_ | (refine r_op ?_; first | refine r_pure hT rfl rfl rfl rfl rfl rfl ?_ | refine r_alloc hT rfl rfl rfl rfl rfl rfl rfl rfl rfl ?_) | refine gi_seq ?_ | refine gi_plain ?_ | refine gi_block ?_))
  refine gi_loop (σ := Nat) (fun i => [(7, I (i : Int)), (6, I (fdI (fndN l a i))), (0, rsRt l), (1, I a), (4, .box 0 0)]) (fun _ => [some (67, zRtC)]) (fun _ => []) (fun i => i ≤ l.length) (fun i => l.length - i) 0 (Nat.zero_le _) ⟨rfl, rfl, rfl, rfl, rfl, trivial⟩ ⟨rfl, trivial⟩ trivial (fun _ => rfl) (fun i hi next => ?_)
  have hi : i ≤ l.length := hi
  (repeat (first | refine r_end ?_ | (refine r_op ?_; refine r_pure hT rfl rfl rfl rfl rfl rfl ?_) | refine gi_seq ?_ | refine gi_plain ?_))
  refine gi_lt (p := (i : Int)) (q := ((l.map Rt.row).length : Int)) rfl (fun h3 => ?_) (fun h3 => ?_)
  · rw [List.length_map] at h3
    obtain ⟨x, hx⟩ : ∃ x, l[i]? = some x := ⟨_, List.getElem?_eq_getElem (by omega)⟩
    have hst := fnd_step (a := a) hx
    have hat := fun j y h => fnd_at (l := l) (a := a) (i := i) (j := j) (x := y) h
    have on : ∀ m', fndN l a (i + 1) = m' → ∀ F1 H1 S1, SubF [(7, I (wr .i64 ((i : Int) + 1))), (6, I (fdI m')), (0, rsRt l), (1, I a), (4, .box 0 0)] F1 → SubH [some (67, zRtC)] H1 → SubS [] S1 → GI _ _ F1 H1 S1 := fun m' hm' F1 H1 S1 hF hH hS => by
      refine next (i + 1) F1 H1 S1 (by omega) (by omega) ?_ hH hS
      rw [wadd1 (by omega)] at hF
      rw [hm']
      exact hF
    clear next
    generalize fndN l a i = m at hst hat
    unfold fd1 at hst
    (repeat (first | refine gi_seq ?_ | refine gi_skip ?_ | refine gi_block ?_))
    refine gi_drawM [] [(0, .p), (1, .p), (2, .p), (3, .p), (4, .p), (6, .p), (7, .p), (8, .p), (9, .p), (5, .t), (10, .t), (11, .o), (12, .p), (13, .p), (14, .p), (15, .p), (16, .p), (17, .p), (18, .p), (19, .p), (21, .p), (22, .p), (23, .p), (24, .p), (20, .t), (25, .t), (26, .p), (27, .p), (28, .p)] [0, 0, 0, 6, 8, 16, 0, 0, 192, 256, 512, 1057, 2048, 4096, 12288, 20480, 32768, 32768, 229376, 294912, 557056, 32768, 32768, 6324224, 8421376, 16809984, 34635776, 67145728, 134221824] [0, 0, 0, 6, 8, 16, 0, 0, 192, 256, 512, 1057, 2048, 4096, 12288, 20480, 32768, 32768, 229376, 294912, 557056, 32768, 32768, 6324224, 8421376, 16809984, 34635776, 67145728, 134221824] Kt.hm rfl (by kernel_rfl) (fun w1 K => ?_)
    (repeat ((refine r_op ?_; refine r_pure hT rfl rfl rfl rfl rfl rfl ?_)))
    refine r_idx (row := x.row) hT rfl rfl rfl rfl rfl rfl rfl rfl rfl rfl rfl rfl (nn i) (by simp [hx]) ?_
    (repeat ((refine r_op ?_; refine r_pure hT rfl rfl rfl rfl rfl rfl ?_)))
    refine r_idx (row := x.row) hT rfl rfl rfl rfl rfl rfl rfl rfl rfl rfl rfl rfl (nn i) (by simp [hx]) ?_
    (repeat ((refine r_op ?_; first | refine r_pure hT rfl rfl rfl rfl rfl rfl ?_ | refine r_load hT rfl rfl rfl rfl rfl rfl rfl rfl rfl ?_)))
    refine r_call (rIn_ok a x.p x.b) rfl rfl rfl rfl rfl rfl rfl rfl Try.func26 rfl rfl rfl pB ?_
    rintro r S1 ⟨rfl, rfl⟩
    (repeat ((refine r_op ?_; refine r_pure hT rfl rfl rfl rfl rfl rfl ?_)))
    refine r_case (d := 26) rfl (fun c1 => ?_) (fun c1 => ?_)
    · rw [in_same] at c1
      rw [c1] at hst
      simp only at hst
      cases m with
      | none =>
        (repeat ((refine r_op ?_; refine r_pure hT rfl rfl rfl rfl rfl rfl ?_)))
        refine r_known (d := 29) (b := true) rfl (by rw [ltB_eq]; rfl) ?_
        (repeat (first | refine r_end ?_ | (refine r_op ?_; first | refine r_pure hT rfl rfl rfl rfl rfl rfl ?_ | refine r_off rfl rfl rfl rfl rfl ?_) | refine gi_plain ?_ | refine gi_inBlock ?_ | (refine gi_cnd ?_; first | refine gi_true rfl ?_ | refine gi_false rfl ?_)))
        exact on _ hst _ _ _ ⟨rfl, rfl, rfl, rfl, rfl, trivial⟩ ⟨rfl, trivial⟩ trivial
      | some q =>
        obtain ⟨j, y⟩ := q
        obtain ⟨hy, hj⟩ := hat j y rfl
        simp only at hst
        (repeat ((refine r_op ?_; refine r_pure hT rfl rfl rfl rfl rfl rfl ?_)))
        refine r_known (d := 29) (b := false) rfl (by rw [ltB_eq]; exact decide_eq_false (by show ¬ (j : Int) < 0; omega)) ?_
        (repeat ((refine r_op ?_; refine r_pure hT rfl rfl rfl rfl rfl rfl ?_)))
        refine r_idx (row := x.row) hT rfl rfl rfl rfl rfl rfl rfl rfl rfl rfl rfl rfl (nn i) (by simp [hx]) ?_
        (repeat ((refine r_op ?_; refine r_pure hT rfl rfl rfl rfl rfl rfl ?_)))
        refine r_idx (row := y.row) (j := (j : Int)) hT rfl rfl rfl rfl rfl rfl rfl rfl rfl rfl rfl rfl (nn j) (by simp [hy]) ?_
        (repeat (first | refine r_end ?_ | (refine r_op ?_; first | refine r_pure hT rfl rfl rfl rfl rfl rfl ?_ | refine r_load hT rfl rfl rfl rfl rfl rfl rfl rfl rfl ?_)))
        refine gi_cond rfl (fun c2 => ?_) (fun c2 => ?_)
        · rw [c2] at hst
          (repeat (first | refine r_end ?_ | (refine r_op ?_; refine r_pure hT rfl rfl rfl rfl rfl rfl ?_) | refine gi_plain ?_ | refine gi_inBlock ?_))
          exact on _ hst _ _ _ ⟨rfl, rfl, rfl, rfl, rfl, trivial⟩ ⟨rfl, trivial⟩ trivial
        · rw [c2] at hst
          (repeat (first | refine r_end ?_ | (refine r_op ?_; refine r_pure hT rfl rfl rfl rfl rfl rfl ?_) | refine gi_plain ?_ | refine gi_skip ?_ | refine gi_inBlock ?_))
          exact on _ hst _ _ _ ⟨rfl, rfl, rfl, rfl, rfl, trivial⟩ ⟨rfl, trivial⟩ trivial
    · rw [in_same] at c1
      rw [c1] at hst
      (repeat (first | refine r_end ?_ | (refine r_op ?_; first | refine r_pure hT rfl rfl rfl rfl rfl rfl ?_ | refine r_off rfl rfl rfl rfl rfl ?_) | refine gi_plain ?_ | refine gi_skip ?_ | refine gi_inBlock ?_ | (refine gi_cnd ?_; first | refine gi_true rfl ?_ | refine gi_false rfl ?_)))
      exact on _ hst _ _ _ ⟨rfl, rfl, rfl, rfl, rfl, trivial⟩ ⟨rfl, trivial⟩ trivial
  · rw [List.length_map] at h3
    have hil : i = l.length := by omega
    subst hil
    unfold findF
    have hat := fun j y h => fnd_at (l := l) (a := a) (i := l.length) (j := j) (x := y) h
    generalize fndN l a l.length = m at hat
    cases m with
    | none =>
      (repeat (first | refine r_end ?_ | (refine r_op ?_; refine r_pure hT rfl rfl rfl rfl rfl rfl ?_) | refine gi_seq ?_ | refine gi_plain ?_ | refine gi_exit rfl ?_))
      refine gi_known (d := 45) (b := true) rfl (by rw [ltB_eq]; rfl) ?_
      (repeat (first | refine r_end ?_ | (refine r_op ?_; first | refine r_pure hT rfl rfl rfl rfl rfl rfl ?_ | refine r_store hT rfl rfl rfl rfl rfl rfl rfl rfl rfl rfl ?_) | refine gi_seq ?_ | refine gi_plain ?_ | (refine gi_cnd ?_; first | refine gi_true rfl ?_ | refine gi_false rfl ?_)))
      refine gi_retW hT Try.func34 rfl rfl [] rfl rfl rfl rfl ?_
      exact ⟨rfl, rfl⟩
    | some q =>
      obtain ⟨j, y⟩ := q
      obtain ⟨hy, hj⟩ := hat j y rfl
      (repeat (first | refine r_end ?_ | (refine r_op ?_; refine r_pure hT rfl rfl rfl rfl rfl rfl ?_) | refine gi_seq ?_ | refine gi_plain ?_ | refine gi_exit rfl ?_))
      refine gi_known (d := 45) (b := false) rfl (by rw [ltB_eq]; exact decide_eq_false (by show ¬ (j : Int) < 0; omega)) ?_
      (repeat (first | (refine r_op ?_; refine r_pure hT rfl rfl rfl rfl rfl rfl ?_) | refine gi_seq ?_ | refine gi_plain ?_ | refine gi_skip ?_ | (refine gi_cnd ?_; first | refine gi_true rfl ?_ | refine gi_false rfl ?_)))
      refine r_idx (row := y.row) (j := (j : Int)) hT rfl rfl rfl rfl rfl rfl rfl rfl rfl rfl rfl rfl (nn j) (by simp [hy]) ?_
      (repeat (first | refine r_end ?_ | (refine r_op ?_; first | refine r_pure hT rfl rfl rfl rfl rfl rfl ?_ | refine r_load hT rfl rfl rfl rfl rfl rfl rfl rfl rfl ?_ | refine r_store hT rfl rfl rfl rfl rfl rfl rfl rfl rfl rfl ?_)))
      refine gi_retW hT Try.func34 rfl rfl [] rfl rfl rfl rfl ?_
      exact ⟨rfl, rfl⟩
end Go.Proofs.Ytmocggibcniggaa.Kt
namespace Go.Proofs.Ytmocggibcniggaa.Kt
open Go Kw Go.Proofs
attribute [local irreducible] Kw.GI Kw.GR Kw.FnR Kw.FnX Kw.FnI
set_option maxHeartbeats 16000000
set_option maxRecDepth 100000
theorem tre_of {l : List Ls} (hf : Few l) (v : Vt) : Tre (refTree (mapL l) v) := by
  by_cases hv : v ∈ (mapL l).vs
  · exact (tr_of hf hv).tre
  · unfold refTree
    rw [show (mapL l).vs.any (fun x => decide (x = v)) = false from ?_]
    · exact tre_nil
    · rw [← Bool.not_eq_true, List.any_eq_true]
      rintro ⟨y, hy, he⟩
      exact hv (of_decide_eq_true he ▸ hy)
/-- What is told of a router. -/
abbrev rawL (l : List Ls) (self : Int) : List Rt := rawR (mapL l) (refTree (mapL l) ⟨1, self⟩)
theorem RoutesL (l : List Ls) (self : Int) (hf : Few l) : FnX Try.prog 30 [avMf (mapL l), I self] [] [] (RRts (rawL l self)) := Routes_ok l self hf (tre_of hf ⟨1, self⟩)
theorem pRts {L : List Rt} : ∀ r H1 S1, RRts L r H1 S1 → stA r = true ∧ StH H1 ∧ StS S1 := by
  rintro r H S ⟨rfl, rfl, L', rfl, _⟩
  exact ⟨stLL_Rt L', StH.nil, stS_nil⟩
theorem rtOk_nil {L : List Rt} (h : RtOk [] L) : L = [] := by
  obtain ⟨q, h1, _, rfl⟩ := h
  have : q = [] := List.eq_nil_of_length_eq_zero h1.len
  subst this
  rfl
theorem rtOk_one {x : Rt} {L : List Rt} (h : RtOk [x] L) : L = [x] := by
  obtain ⟨q, h1, _, rfl⟩ := h
  have hl : q.length = 1 := h1.len
  match q, hl, h1 with
  | [y], _, h1 =>
    have := (h1.stb.mem (x := y)).1 (List.mem_singleton.2 rfl)
    rw [List.mem_singleton.1 this]
    exact cpN_one rfl
theorem raw0 : rawL l0 1 = [⟨51456, 24, 1, 0, 0⟩] := by kernel_rfl
theorem few_nil : Few [] := ⟨Nat.zero_le _, fun x h => (nomatch h), fun x h => (nomatch h)⟩
theorem CL_mapN {E : Env} {w : World} {us : List Value} {s : Int} (h : CL E w [.agg [nilA, nilA, nilA, nilA, nilA], I s] us) : CL E w [avMf (mapL []), I s] us := by
  unfold CL at h ⊢
  obtain ⟨u, r, rfl, h1, h2⟩ := h
  refine ⟨u, r, rfl, ?_, h2⟩
  unfold C at h1 ⊢
  obtain ⟨vs, rfl, h3, h4⟩ := h1
  refine ⟨vs, rfl, ?_, h4⟩
  have a1 := CL_setx (x := nilA) (y := .r (.fs 2 [])) (j := 0) (fun u hu => C_nil_fs hu) rfl h3
  have a2 := CL_setx (x := nilA) (y := .r (.fs 6 [])) (j := 1) (fun u hu => C_nil_fs hu) rfl a1
  have a3 := CL_setx (x := nilA) (y := .r (.fs 4 [])) (j := 2) (fun u hu => C_nil_fs hu) rfl a2
  have a4 := CL_setx (x := nilA) (y := .r (.fs 4 [])) (j := 3) (fun u hu => C_nil_fs hu) rfl a3
  exact CL_setx (x := nilA) (y := .r (.fs 1 [])) (j := 4) (fun u hu => C_nil_fs hu) rfl a4
theorem Routes0 (s : Int) : FnX Try.prog 30 [.agg [nilA, nilA, nilA, nilA, nilA], I s] [] [] (RRts (rawL [] s)) :=
  fnX_args (RoutesL [] s few_nil) (fun _ _ _ h => CL_mapN h)
theorem awake19_ok : FnR Try.prog 32 [] (RB true) := by
  refine fnR_intro (T := TT) (n := 21) Try.func32 rfl rfl rfl (fun w Z => ?_)
  (repeat (first | refine r_end ?_ | (refine r_op ?_; refine r_pure hT rfl rfl rfl rfl rfl rfl ?_) | refine gi_seq ?_ | refine gi_plain ?_))
  refine r_callX [] [] (Graph0n) rfl rfl rfl rfl rfl rfl Try.func28 rfl rfl rfl rfl rfl rfl rfl p0G ?_
  rintro r H1 S1 ⟨rfl, rfl, rfl⟩
  refine r_freeze 0 rfl (frz_seO l0) ?_
  skip
  refine r_call (MapF l0 few0) rfl rfl rfl rfl rfl rfl rfl rfl Try.func15 rfl rfl rfl pMapP ?_
  rintro r S1 ⟨rfl, rfl⟩
  refine r_freeze 1 (L' := (mapL l0).vs.map Vt.row) rfl rfl ?_
  refine r_freeze 2 (L' := (mapL l0).es.map Eg.row) rfl rfl ?_
  refine r_freeze 3 (L' := (mapL l0).sb.map Sb.row) rfl rfl ?_
  refine r_freeze 4 (L' := (mapL l0).sn.map Sn.row) rfl rfl ?_
  refine r_freeze 5 (L' := (mapL l0).wl.map nRow) rfl rfl ?_
  skip
  refine r_callX [] [] (RoutesL l0 1 few0) rfl rfl rfl rfl rfl rfl Try.func30 rfl rfl rfl rfl rfl rfl rfl pRts ?_
  rintro r H1 S1 ⟨rfl, rfl, L1, rfl, hL1⟩
  rw [raw0] at hL1
  have := rtOk_one hL1
  subst this
  (repeat (first | refine r_end ?_ | (refine r_op ?_; refine r_pure hT rfl rfl rfl rfl rfl rfl ?_) | refine gi_seq ?_ | refine gi_plain ?_))
  refine r_callX [] [] (Routes0 1) rfl rfl rfl rfl rfl rfl Try.func30 rfl rfl rfl rfl rfl rfl rfl pRts ?_
  rintro r H1 S1 ⟨rfl, rfl, L2, rfl, hL2⟩
  have := rtOk_nil hL2
  subst this
  (repeat ((refine r_op ?_; refine r_pure hT rfl rfl rfl rfl rfl rfl ?_)))
  refine r_known (d := 9) (b := true) rfl (by rw [eqB_eq]; rfl) ?_
  (repeat ((refine r_op ?_; refine r_pure hT rfl rfl rfl rfl rfl rfl ?_)))
  refine r_known (d := 14) (b := true) rfl (by rw [eqB_eq]; rfl) ?_
  (repeat ((refine r_op ?_; refine r_pure hT rfl rfl rfl rfl rfl rfl ?_)))
  refine r_thaw 15 rfl ?_
  refine r_idx (row := (⟨51456, 24, 1, 0, 0⟩ : Rt).row) hT rfl rfl rfl rfl rfl rfl rfl rfl rfl rfl rfl rfl (by decide) (by rfl) ?_
  (repeat (first | refine r_end ?_ | (refine r_op ?_; first | refine r_pure hT rfl rfl rfl rfl rfl rfl ?_ | refine r_load hT rfl rfl rfl rfl rfl rfl rfl rfl rfl ?_)))
  refine gi_retW hT Try.func32 rfl rfl [] rfl rfl rfl rfl ?_
  exact ⟨by rw [eqB_eq]; rfl, rfl⟩
theorem y_flat_Rt : flatK Try.prog 67 = some [some .i64, some .i64, some .i64, some .i64, some .i64] := by kernel_rfl
theorem rtEq_self (x : Rt) : notB (eqB x.p x.p && (eqB x.b x.b && (eqB x.c x.c && (eqB x.o x.o && (eqB x.n x.n && true))))) = false := by
  rw [notB_eq, eqB_eq, eqB_eq, eqB_eq, eqB_eq, eqB_eq]; simp
theorem Same_ok (l : List Rt) (hl : l.length < 100000000) : FnR Try.prog 29 [rsRt l, rsRt l] (RB true) := by
  refine fnR_intro (T := TT) (n := 26) Try.func29 rfl rfl rfl (fun w Z => ?_)
  (repeat (first | refine r_end ?_ | (refine r_op ?_; refine r_pure hT rfl rfl rfl rfl rfl rfl ?_) | refine gi_seq ?_ | refine gi_plain ?_))
  refine gi_known (d := 10) (b := false) rfl (by rw [notB_eq, eqB_eq]; simp) ?_
  (repeat (first | refine r_end ?_ | (refine r_op ?_; refine r_pure hT rfl rfl rfl rfl rfl rfl ?_) | refine gi_seq ?_ | refine gi_plain ?_ | refine gi_skip ?_ | refine gi_block ?_ | (refine gi_cnd ?_; first | refine gi_true rfl ?_ | refine gi_false rfl ?_)))
  refine gi_loop (σ := Nat) (fun j => [(5, I (j : Int)), (1, rsRt l), (0, rsRt l)]) (fun _ => []) (fun _ => []) (fun j => j ≤ l.length) (fun j => l.length - j) 0 (Nat.zero_le _) ⟨rfl, rfl, rfl, trivial⟩ trivial trivial (fun _ => rfl) (fun j hj next => ?_)
  have hj : j ≤ l.length := hj
  (repeat (first | refine r_end ?_ | (refine r_op ?_; refine r_pure hT rfl rfl rfl rfl rfl rfl ?_) | refine gi_seq ?_ | refine gi_plain ?_))
  refine gi_lt (p := (j : Int)) (q := ((l.map Rt.row).length : Int)) rfl (fun h3 => ?_) (fun h3 => ?_)
  · rw [List.length_map] at h3
    obtain ⟨x, hx⟩ : ∃ x, l[j]? = some x := ⟨_, List.getElem?_eq_getElem (by omega)⟩
    (repeat (first | refine gi_seq ?_ | refine gi_skip ?_ | refine gi_block ?_))
    refine gi_drawM [] [(0, .p), (1, .p), (2, .p), (4, .p), (5, .p), (6, .p), (3, .t), (7, .t), (8, .p)] [0, 0, 3, 4, 0, 0, 48, 64, 136] [0, 0, 3, 4, 0, 0, 48, 64, 136] Kt.hm rfl (by kernel_rfl) (fun w1 K => ?_)
    (repeat ((refine r_op ?_; refine r_pure hT rfl rfl rfl rfl rfl rfl ?_)))
    refine r_idx (row := x.row) hT rfl rfl rfl rfl rfl rfl rfl rfl rfl rfl rfl rfl (nn j) (by simp [hx]) ?_
    (repeat ((refine r_op ?_; refine r_pure hT rfl rfl rfl rfl rfl rfl ?_)))
    refine r_idx (row := x.row) hT rfl rfl rfl rfl rfl rfl rfl rfl rfl rfl rfl rfl (nn j) (by simp [hx]) ?_
    (repeat ((refine r_op ?_; refine r_load hT rfl rfl rfl rfl rfl rfl rfl rfl rfl ?_)))
    refine r_neT _ rfl rfl rfl rfl rfl rfl rfl rfl rfl y_flat_Rt ?_
    (repeat (refine r_end ?_))
    refine gi_known (d := 25) (b := false) rfl (rtEq_self x) ?_
    (repeat (first | refine r_end ?_ | (refine r_op ?_; refine r_pure hT rfl rfl rfl rfl rfl rfl ?_) | refine gi_plain ?_ | refine gi_skip ?_ | refine gi_inBlock ?_ | (refine gi_cnd ?_; first | refine gi_true rfl ?_ | refine gi_false rfl ?_)))
    refine next (j + 1) _ _ _ (by omega) (by omega) ⟨?_, rfl, rfl, trivial⟩ trivial trivial
    show some (I (wr .i64 ((j : Int) + 1))) = _
    rw [wadd1 (by omega)]
  · (repeat (first | refine r_end ?_ | (refine r_op ?_; refine r_pure hT rfl rfl rfl rfl rfl rfl ?_) | refine gi_seq ?_ | refine gi_plain ?_ | refine gi_exit rfl ?_))
    refine gi_retW hT Try.func29 rfl rfl [] rfl rfl rfl rfl ?_
    exact ⟨rfl, rfl⟩
end Go.Proofs.Ytmocggibcniggaa.Kt
namespace Go.Proofs.Ytmocggibcniggaa.Kt
open Go Kw Go.Proofs
attribute [local irreducible] Kw.GI Kw.GR Kw.FnR Kw.FnX
set_option maxHeartbeats 8000000
set_option maxRecDepth 100000
theorem in17_ok (l : List Vt) (v : Vt) (hl : l.length < 1000000) : FnR Try.prog 58 [rsV l, v.av] (RB (l.any (fun x => decide (x = v)))) := by
  refine fnR_intro (T := TT) (n := 18) Try.func58 rfl rfl rfl (fun w Z => ?_)
  (repeat (first | refine r_end ?_ | (refine r_op ?_; first | refine r_pure hT rfl rfl rfl rfl rfl rfl ?_ | refine r_box rfl rfl rfl rfl rfl rfl rfl rfl rfl ?_) | refine gi_seq ?_ | refine gi_plain ?_ | refine gi_block ?_))
  refine gi_loop (σ := Nat) (fun j => [(5, I j), (3, .box 0 0), (0, rsV l)]) (fun _ => [hV v]) (fun _ => []) (fun j => j ≤ l.length ∧ (l.take j).any (fun x => decide (x = v)) = false) (fun j => l.length - j) 0 ⟨Nat.zero_le _, rfl⟩ ⟨rfl, rfl, rfl, trivial⟩ ⟨rfl, trivial⟩ trivial (fun _ => rfl) (fun j hj next => ?_)
  obtain ⟨hj, hn⟩ := hj
  (repeat (first | refine r_end ?_ | (refine r_op ?_; refine r_pure hT rfl rfl rfl rfl rfl rfl ?_) | refine gi_seq ?_ | refine gi_plain ?_))
  refine gi_lt (q := ((l.map Vt.row).length : Int)) rfl (fun h3 => ?_) (fun h3 => ?_)
  · rw [List.length_map] at h3
    have hjl : j < l.length := by omega
    obtain ⟨x, hx⟩ : ∃ x, l[j]? = some x := ⟨_, List.getElem?_eq_getElem hjl⟩
    have hat := any_take (fun x => decide (x = v)) hx
    rw [hn, Bool.false_or] at hat
    (repeat (first | refine gi_seq ?_ | refine gi_skip ?_ | refine gi_block ?_))
    refine gi_drawM [] [(0, .p), (1, .p), (2, .p), (3, .t), (4, .t), (5, .p)] [0, 0, 3, 4, 0, 24] [0, 0, 3, 4, 0, 24] hm rfl (by kernel_rfl) (fun w1 K => ?_)
    (repeat ((refine r_op ?_; refine r_pure hT rfl rfl rfl rfl rfl rfl ?_)))
    refine r_idx (row := x.row) hT rfl rfl rfl rfl rfl rfl rfl rfl rfl rfl rfl rfl (by omega) (by simp [hx]) ?_
    (repeat ((refine r_op ?_; refine r_load hT rfl rfl rfl rfl rfl rfl rfl rfl rfl ?_)))
    refine r_eqT _ rfl rfl rfl rfl rfl rfl rfl rfl rfl y_flat_Vt ?_
    (repeat (refine r_end ?_))
    refine gi_cond rfl (fun c4 => ?_) (fun c4 => ?_)
    · rw [veq_eq x v] at c4
      (repeat (first | refine r_end ?_ | (refine r_op ?_; refine r_pure hT rfl rfl rfl rfl rfl rfl ?_) | refine gi_seq ?_ | refine gi_plain ?_))
      refine gi_retW hT Try.func58 rfl rfl [] rfl rfl rfl rfl ?_
      refine ⟨?_, rfl⟩
      rw [List.any_eq_true.2 ⟨x, List.mem_of_getElem? hx, c4⟩]
    · rw [veq_eq x v] at c4
      (repeat (first | refine r_end ?_ | (refine r_op ?_; refine r_pure hT rfl rfl rfl rfl rfl rfl ?_) | refine gi_plain ?_ | refine gi_skip ?_ | refine gi_inBlock ?_))
      refine next (j + 1) _ _ _ ⟨hjl, by rw [hat]; exact c4⟩ (by omega) ⟨?_, rfl, rfl, trivial⟩ ⟨rfl, trivial⟩ trivial
      show some (I (wr .i64 ((j : Int) + 1))) = _
      rw [wr_i64 (by omega) (by omega)]
      simp
  · rw [List.length_map] at h3
    have hjl : j = l.length := by omega
    subst hjl
    rw [List.take_length] at hn
    (repeat (first | refine r_end ?_ | (refine r_op ?_; refine r_pure hT rfl rfl rfl rfl rfl rfl ?_) | refine gi_seq ?_ | refine gi_plain ?_ | refine gi_exit rfl ?_))
    refine gi_retW hT Try.func58 rfl rfl [] rfl rfl rfl rfl ?_
    exact ⟨by rw [hn], rfl⟩
theorem contains_any (l : List Int) (n : Int) : l.contains n = l.any (fun x => decide (x = n)) := by
  rw [Bool.eq_iff_iff, List.contains_iff_mem, List.any_eq_true]
  exact ⟨fun h => ⟨n, h, decide_eq_true rfl⟩, fun ⟨x, h, e⟩ => by rw [← of_decide_eq_true e]; exact h⟩
/-! ### the reference's Reach: the law -/
def cR (q n : Nd) : Int := if q.v.k = 2 ∨ n.v.k = 1 then 1 else 0
theorem cR_b (q n : Nd) : 0 ≤ cR q n ∧ cR q n ≤ 1 := by unfold cR; split <;> omega
theorem cR_eq {q n : Nd} (hq : q.v.k = 1 ∨ q.v.k = 2) : cR q n = cK q n + cP q := by
  unfold cR cK cP
  rcases hq with h | h
  · rw [if_pos h]
    by_cases h2 : n.v.k = 1
    · rw [if_pos (.inr h2), if_pos ⟨h2, h⟩]; rfl
    · rw [if_neg (fun hh => by rcases hh with hh | hh <;> omega), if_neg (fun hh => h2 hh.1)]; rfl
  · rw [if_pos (.inl h), if_neg (fun hh => by have := hh.2; omega), if_neg (show ¬ q.v.k = 1 by omega)]; rfl
structure PInv (t : List Nd) (w : List Int) (ms : List Vt) (i : Nat) (o : List Int) : Prop where
  lo : o.length = t.length
  rng : ∀ (k : Nat) x, i ≤ k → o[k]? = some x → -1 ≤ x ∧ x + k ≤ t.length
  at_ : ∀ k n x, i ≤ k → t[k]? = some n → o[k]? = some x → Val t w ms o k n x
theorem PInv.zero (t : List Nd) (w : List Int) (ms : List Vt) : PInv t w ms t.length (List.replicate t.length 0) where
  lo := by simp
  rng := fun k x hk hx => by have := (List.getElem?_eq_some_iff.1 hx).1; rw [List.length_replicate] at this; omega
  at_ := fun k n x hk hn _ => by have := (List.getElem?_eq_some_iff.1 hn).1; omega
theorem PInv.rch {t : List Nd} {w : List Int} {ms : List Vt} {o : List Int} (h : PInv t w ms 0 o) : Rch t w ms o :=
  ⟨h.lo, fun k x => h.rng k x (Nat.zero_le _), fun k n x => h.at_ k n x (Nat.zero_le _)⟩
/-- The nearest of the kids between i and k. -/
structure EInv (t : List Nd) (o : List Int) (i k : Nat) (n : Nd) (e : Int) : Prop where
  lo : -1 ≤ e
  le : ∀ k' m y, i < k' → k' < k → t[k']? = some m → m.p = i → o[k']? = some y → 0 ≤ y → 0 ≤ e ∧ e ≤ y + cR n m
  or : 0 ≤ e → ∃ k' m y, i < k' ∧ k' < k ∧ t[k']? = some m ∧ m.p = i ∧ o[k']? = some y ∧ 0 ≤ y ∧ e = y + cR n m
section
variable {t : List Nd} {w : List Int} {ms : List Vt} {i k : Nat} {o : List Int} {n m : Nd} {e y : Int}
theorem EInv.zero : EInv t o i (i + 1) n (-1) := ⟨by omega, fun k' _ _ h1 h2 => by omega, fun h => by omega⟩
theorem EInv.skip (h : EInv t o i k n e) (hm : t[k]? = some m) (hy : o[k]? = some y) (hs : m.p ≠ i ∨ y < 0) : EInv t o i (k + 1) n e := by
  refine ⟨h.lo, fun k' m' y' q1 q2 q3 q4 q5 q6 => ?_, fun h0 => ?_⟩
  · rcases Nat.lt_succ_iff_lt_or_eq.1 q2 with q2 | rfl
    · exact h.le k' m' y' q1 q2 q3 q4 q5 q6
    · rw [hm] at q3; cases q3
      rw [hy] at q5; cases q5
      rcases hs with hs | hs
      · exact absurd q4 hs
      · omega
  · obtain ⟨k', m', y', q1, q2, q⟩ := h.or h0
    exact ⟨k', m', y', q1, by omega, q⟩
theorem EInv.add (h : EInv t o i k n e) (hik : i < k) (hm : t[k]? = some m) (hy : o[k]? = some y) (hp : m.p = i) (hy0 : 0 ≤ y) : EInv t o i (k + 1) n (if e < 0 ∨ y + cR n m < e then y + cR n m else e) := by
  have hc := cR_b n m
  refine ⟨by have := h.lo; split <;> omega, fun k' m' y' q1 q2 q3 q4 q5 q6 => ?_, fun h0 => ?_⟩
  · rcases Nat.lt_succ_iff_lt_or_eq.1 q2 with q2 | rfl
    · have := h.le k' m' y' q1 q2 q3 q4 q5 q6
      split <;> omega
    · rw [hm] at q3; cases q3
      rw [hy] at q5; cases q5
      split <;> omega
  · by_cases hh : e < 0 ∨ y + cR n m < e
    · rw [if_pos hh]
      exact ⟨k, m, y, hik, by omega, hm, hp, hy, hy0, rfl⟩
    · rw [if_neg hh] at h0 ⊢
      obtain ⟨k', m', y', q1, q2, q⟩ := h.or h0
      exact ⟨k', m', y', q1, by omega, q⟩
def valP (w : List Int) (ms : List Vt) (n : Nd) (e : Int) : Int := if isW w n = true then 0 else if isMb ms n = true then 1 else e
theorem PInv.step (h : PInv t w ms (i + 1) o) (hn : t[i]? = some n) (hk : n.v.k = 1 ∨ n.v.k = 2) (he : EInv t o i t.length n e) : PInv t w ms i (o.set i (valP w ms n e)) := by
  have hl := (List.getElem?_eq_some_iff.1 hn).1
  have hlo : i < o.length := by rw [h.lo]; exact hl
  have hb : -1 ≤ valP w ms n e ∧ valP w ms n e + i ≤ t.length := by
    unfold valP
    split
    · omega
    split
    · omega
    · by_cases h0 : 0 ≤ e
      · obtain ⟨k', m', y', q1, q2, q3, q4, q5, q6, rfl⟩ := he.or h0
        have := (h.rng k' y' (by omega) q5).2
        have := cR_b n m'
        omega
      · have := he.lo; omega
  refine ⟨by rw [List.length_set]; exact h.lo, fun k x hk hx => ?_, fun k m x hk' hm hx => ?_⟩
  · rcases getS hlo hx with ⟨rfl, rfl⟩ | ⟨hne, hx⟩
    · exact hb
    · exact h.rng k x (by omega) hx
  · rcases getS hlo hx with ⟨rfl, rfl⟩ | ⟨hne, hx⟩
    · rw [hn] at hm; cases hm
      refine ⟨fun h1 => by unfold valP; rw [if_pos h1], fun h1 h2 => by unfold valP; rw [if_neg (by rw [h1]; decide), if_pos h2], fun h1 h2 k' m' y' q1 q3 q4 q5 q6 => ?_, fun h1 h2 h0 => ?_⟩
      · have hv : valP w ms n e = e := by unfold valP; rw [if_neg (by rw [h1]; decide), if_neg (by rw [h2]; decide)]
        rw [List.getElem?_set_ne (by omega)] at q5
        rw [hv, ← cR_eq hk]
        exact he.le k' m' y' q1 (List.getElem?_eq_some_iff.1 q3).1 q3 q4 q5 q6
      · have hv : valP w ms n e = e := by unfold valP; rw [if_neg (by rw [h1]; decide), if_neg (by rw [h2]; decide)]
        rw [hv] at h0 ⊢
        obtain ⟨k', m', y', q1, q2, q3, q4, q5, q6, q7⟩ := he.or h0
        exact ⟨k', m', y', q1, q3, q4, by rw [List.getElem?_set_ne (by omega)]; exact q5, q6, by rw [q7, cR_eq hk]⟩
    · exact (h.at_ k m x (by omega) hm hx).keep (fun j hj => List.getElem?_set_ne (by omega))
end
/-- There is but one answer. -/
theorem Rch.uniq {t : List Nd} {w : List Int} {ms : List Vt} {a b : List Int} (ha : Rch t w ms a) (hb : Rch t w ms b) : a = b := by
  have key : ∀ (j k : Nat) (x y : Int), t.length - k ≤ j → a[k]? = some x → b[k]? = some y → x = y := by
    intro j
    induction j with
    | zero => intro k x y hj hx; have := (List.getElem?_eq_some_iff.1 hx).1; have := ha.lo; omega
    | succ j ih =>
      intro k x y hj hx hy
      have hl := (List.getElem?_eq_some_iff.1 hx).1
      rw [ha.lo] at hl
      obtain ⟨n, hn⟩ : ∃ n, t[k]? = some n := ⟨_, List.getElem?_eq_getElem hl⟩
      have va := ha.at_ k n x hn hx
      have vb := hb.at_ k n y hn hy
      cases hw : isW w n with
      | true => rw [va.wi hw, vb.wi hw]
      | false =>
        cases hm : isMb ms n with
        | true => rw [va.me hw hm, vb.me hw hm]
        | false =>
          have rx := ha.rng k x hx
          have ry := hb.rng k y hy
          have e1 : 0 ≤ x → 0 ≤ y ∧ y ≤ x := fun h0 => by
            obtain ⟨k', m, x', hk, hm', hp, hx', hx1, rfl⟩ := va.or hw hm h0
            obtain ⟨y', hy'⟩ : ∃ y', b[k']? = some y' := ⟨_, List.getElem?_eq_getElem (by rw [hb.lo]; exact (List.getElem?_eq_some_iff.1 hm').1)⟩
            have := ih k' x' y' (by omega) hx' hy'
            subst this
            exact vb.le hw hm k' m x' hk hm' hp hy' hx1
          have e2 : 0 ≤ y → 0 ≤ x ∧ x ≤ y := fun h0 => by
            obtain ⟨k', m, y', hk, hm', hp, hy', hy1, rfl⟩ := vb.or hw hm h0
            obtain ⟨x', hx'⟩ : ∃ x', a[k']? = some x' := ⟨_, List.getElem?_eq_getElem (by rw [ha.lo]; exact (List.getElem?_eq_some_iff.1 hm').1)⟩
            have := ih k' x' y' (by omega) hx' hy'
            subst this
            exact va.le hw hm k' m x' hk hm' hp hx' hy1
          omega
  refine List.ext_getElem? (fun k => ?_)
  by_cases h : k < t.length
  · obtain ⟨x, hx⟩ : ∃ x, a[k]? = some x := ⟨_, List.getElem?_eq_getElem (by rw [ha.lo]; exact h)⟩
    obtain ⟨y, hy⟩ : ∃ y, b[k]? = some y := ⟨_, List.getElem?_eq_getElem (by rw [hb.lo]; exact h)⟩
    rw [hx, hy, key t.length k x y (by omega) hx hy]
  · rw [List.getElem?_eq_none (by rw [ha.lo]; omega), List.getElem?_eq_none (by rw [hb.lo]; omega)]
end Go.Proofs.Ytmocggibcniggaa.Kt
namespace Go.Proofs.Ytmocggibcniggaa.Kt
open Go Kw Go.Proofs
attribute [local irreducible] Kw.GI Kw.GR Kw.FnR Kw.FnX
set_option maxHeartbeats 16000000
set_option maxRecDepth 100000
theorem rReach_ok (t : List Nd) (m : Mp) (ms : List Vt) (hl : t.length < 1000000) (hw : m.wl.length < 1000000) (hms : ms.length < 1000000) (hkd : ∀ x ∈ t, x.v.k = 1 ∨ x.v.k = 2) : FnX Try.prog 24 [rsNd t, avMf m, rsV ms] [] [] (RReach t m ms) := by
  refine fnX_intro (T := TT) (n := 106) Try.func24 rfl rfl rfl (fun w X Z Y B => ?_)
  (repeat (first | refine r_end ?_ | (refine r_op ?_; first | refine r_pure hT rfl rfl rfl rfl rfl rfl ?_ | refine r_box rfl rfl rfl rfl rfl rfl rfl rfl rfl ?_) | refine gi_seq ?_ | refine gi_plain ?_))
  refine r_make (n := (t.length : Int)) hT rfl rfl rfl rfl rfl rfl rfl (by show some (I (((t.map Nd.row).length : Nat) : Int)) = _; rw [List.length_map]) (by show some (I (((t.map Nd.row).length : Nat) : Int)) = _; rw [List.length_map]) rfl rfl rfl rfl rfl rfl (by omega) ⟨by rw [Int.toNat_natCast]; simp only [maxLen]; omega, by rw [Int.toNat_natCast]; show 8 * t.length ≤ _; omega⟩ ?_
  (repeat (first | refine r_end ?_ | (refine r_op ?_; refine r_pure hT rfl rfl rfl rfl rfl rfl ?_) | refine gi_seq ?_ | refine gi_plain ?_ | refine gi_block ?_))
  have hrep : List.replicate (t.length : Int).toNat (zRow [Value.int IntKind.i64 0]) = (List.replicate t.length (0 : Int)).map nRow := by rw [Int.toNat_natCast, List.map_replicate]; rfl
  refine gi_loop (σ := Nat × List Int) (fun s => [(8, I ((s.1 : Int) - 1)), (7, .sl 0), (0, rsNd t), (2, rsV ms), (4, .box 0 0)]) (fun _ => [hMf m]) (fun s => [eN s.2]) (fun s => s.1 ≤ t.length ∧ PInv t m.wl ms s.1 s.2) (fun s => s.1) (t.length, List.replicate t.length 0) ⟨Nat.le_refl _, PInv.zero t m.wl ms⟩ ⟨?_, rfl, rfl, rfl, rfl, trivial⟩ ⟨rfl, trivial⟩ ⟨?_, trivial⟩ (fun _ => rfl) (fun s hs next => ?_)
  · show some (I (wr .i64 ((((t.map Nd.row).length : Nat) : Int) - 1))) = _
    rw [List.length_map, wr_i64 (by omega) (by omega)]
  · show eN (List.replicate t.length 0) = some (⟨_, _, List.replicate (t.length : Int).toNat (zRow [Value.int IntKind.i64 0]), _⟩ : SE)
    rw [hrep]
  obtain ⟨i0, o⟩ := s
  obtain ⟨hi0, hP⟩ := hs
  simp only at hi0 hP
  (repeat (first | refine r_end ?_ | (refine r_op ?_; refine r_pure hT rfl rfl rfl rfl rfl rfl ?_) | refine gi_seq ?_ | refine gi_plain ?_))
  refine gi_le (p := 0) (q := (i0 : Int) - 1) rfl (fun h3 => ?_) (fun h3 => ?_)
  · obtain ⟨i, rfl⟩ : ∃ j, i0 = j + 1 := ⟨i0 - 1, by omega⟩
    have hil : i < t.length := by omega
    obtain ⟨x, hx⟩ : ∃ x, t[i]? = some x := ⟨_, List.getElem?_eq_getElem hil⟩
    have hol := hP.lo
    have hxk := hkd x (List.mem_of_getElem? hx)
    have hj : (((i + 1 : Nat) : Int) - 1) = i := by omega
    refine gi_turn (d := 8) (y := I (i : Int)) rfl (by rw [hj]) ?_
    (repeat (first | refine r_end ?_ | (refine r_op ?_; refine r_pure hT rfl rfl rfl rfl rfl rfl ?_) | refine gi_seq ?_ | refine gi_plain ?_ | refine gi_skip ?_ | refine gi_block ?_))
    apply gi_cut (σ := Int) (fun e => [(9, I e), (8, I (i : Int)), (7, .sl 0), (0, rsNd t), (2, rsV ms), (4, .box 0 0)]) (fun _ => [hMf m]) (fun _ => [eN o]) (fun e => EInv t o i t.length x e) (fun _ => rfl)
    case first =>
      intro fin
      refine gi_loop (σ := Nat × Int) (fun s => [(10, I (s.1 : Int)), (9, I s.2), (8, I (i : Int)), (7, .sl 0), (0, rsNd t), (2, rsV ms), (4, .box 0 0)]) (fun _ => [hMf m]) (fun _ => [eN o]) (fun s => i + 1 ≤ s.1 ∧ s.1 ≤ t.length ∧ EInv t o i s.1 x s.2) (fun s => t.length - s.1) (i + 1, -1) ⟨Nat.le_refl _, hil, EInv.zero⟩ ⟨?_, rfl, rfl, rfl, rfl, rfl, rfl, trivial⟩ ⟨rfl, trivial⟩ ⟨rfl, trivial⟩ (fun _ => rfl) (fun s hs next2 => ?_)
      · show some (I (wr .i64 ((i : Int) + 1))) = _
        rw [wr_i64 (by omega) (by omega)]
        simp
      obtain ⟨k, e⟩ := s
      obtain ⟨hk1, hk2, hE⟩ := hs
      simp only at hk1 hk2 hE
      (repeat (first | refine r_end ?_ | (refine r_op ?_; refine r_pure hT rfl rfl rfl rfl rfl rfl ?_) | refine gi_seq ?_ | refine gi_plain ?_))
      refine gi_lt (p := (k : Int)) (q := ((t.map Nd.row).length : Int)) rfl (fun h4 => ?_) (fun h4 => ?_)
      · rw [List.length_map] at h4
        have hkl : k < t.length := by omega
        obtain ⟨n, hn⟩ : ∃ m, t[k]? = some m := ⟨_, List.getElem?_eq_getElem hkl⟩
        obtain ⟨y, hy⟩ : ∃ y, o[k]? = some y := ⟨_, List.getElem?_eq_getElem (by omega)⟩
        have hyr := hP.rng k y (by omega) hy
        have hcb := cR_b x n
        have on : ∀ e', EInv t o i (k + 1) x e' → ∀ F1 H1 S1, SubF [(10, I (wr .i64 ((k : Int) + 1))), (9, I e'), (8, I (i : Int)), (7, .sl 0), (0, rsNd t), (2, rsV ms), (4, .box 0 0)] F1 → SubH [hMf m] H1 → SubS [eN o] S1 → GI _ _ F1 H1 S1 := fun e' he' F1 H1 S1 hF hH hS => by
          refine next2 (k + 1, e') F1 H1 S1 ⟨by simp only; omega, by simp only; omega, he'⟩ (by simp only; omega) ?_ hH hS
          rw [wr_i64 (by omega) (by omega)] at hF
          simpa using hF
        clear next2
        (repeat (first | (refine r_op ?_; refine r_pure hT rfl rfl rfl rfl rfl rfl ?_) | refine gi_seq ?_ | refine gi_plain ?_ | refine gi_skip ?_ | refine gi_block ?_))
        refine r_idx (row := n.row) hT rfl rfl rfl rfl rfl rfl rfl rfl rfl rfl rfl rfl (by show (0 : Int) ≤ (k : Int); omega) (by simp [hn]) ?_
        (repeat ((refine r_op ?_; first | refine r_pure hT rfl rfl rfl rfl rfl rfl ?_ | refine r_load hT rfl rfl rfl rfl rfl rfl rfl rfl rfl ?_)))
        refine r_case (d := 37) rfl (fun c1 => ?_) (fun c1 => ?_)
        · (repeat (first | refine r_end ?_ | (refine r_op ?_; first | refine r_pure hT rfl rfl rfl rfl rfl rfl ?_ | refine r_off rfl rfl rfl rfl rfl ?_) | refine gi_plain ?_ | refine gi_exit rfl ?_ | (refine gi_cnd ?_; first | refine gi_true rfl ?_ | refine gi_false rfl ?_)))
          exact on e (hE.skip hn hy (.inl (fun h => by rw [notB_eq, eqB_eq, h] at c1; simp at c1))) _ _ _ ⟨rfl, rfl, rfl, rfl, rfl, rfl, rfl, trivial⟩ ⟨rfl, trivial⟩ ⟨rfl, trivial⟩
        have hp : n.p = i := by
          rw [notB_eq, eqB_eq] at c1
          simpa using c1
        (repeat ((refine r_op ?_; refine r_pure hT rfl rfl rfl rfl rfl rfl ?_)))
        refine r_idxS hT rfl rfl rfl rfl rfl rfl rfl rfl rfl rfl rfl rfl rfl (by show (0 : Int) ≤ (k : Int); omega) (by show ((k : Nat) : Int).toNat < (o.map nRow).length; rw [List.length_map]; omega) ?_
        skip
        refine r_loadS (row := nRow y) hT rfl rfl rfl rfl rfl rfl rfl rfl (by show (o.map nRow)[((k : Nat) : Int).toNat]? = _; rw [Int.toNat_natCast, List.getElem?_map, hy]; rfl) rfl rfl rfl ?_
        (repeat (first | refine r_end ?_ | (refine r_op ?_; refine r_pure hT rfl rfl rfl rfl rfl rfl ?_)))
        refine gi_lt (p := y) (q := 0) rfl (fun h5 => ?_) (fun h5 => ?_)
        · (repeat (first | refine r_end ?_ | (refine r_op ?_; refine r_pure hT rfl rfl rfl rfl rfl rfl ?_) | refine gi_plain ?_ | refine gi_exit rfl ?_))
          exact on e (hE.skip hn hy (.inr h5)) _ _ _ ⟨rfl, rfl, rfl, rfl, rfl, rfl, rfl, trivial⟩ ⟨rfl, trivial⟩ ⟨rfl, trivial⟩
        (repeat (first | (refine r_op ?_; refine r_pure hT rfl rfl rfl rfl rfl rfl ?_) | refine gi_seq ?_ | refine gi_plain ?_ | refine gi_skip ?_))
        refine r_idxS hT rfl rfl rfl rfl rfl rfl rfl rfl rfl rfl rfl rfl rfl (by show (0 : Int) ≤ (k : Int); omega) (by show ((k : Nat) : Int).toNat < (o.map nRow).length; rw [List.length_map]; omega) ?_
        skip
        refine r_loadS (row := nRow y) hT rfl rfl rfl rfl rfl rfl rfl rfl (by show (o.map nRow)[((k : Nat) : Int).toNat]? = _; rw [Int.toNat_natCast, List.getElem?_map, hy]; rfl) rfl rfl rfl ?_
        (repeat (first | refine r_end ?_ | (refine r_op ?_; refine r_pure hT rfl rfl rfl rfl rfl rfl ?_) | refine gi_seq ?_))
        apply gi_cut (σ := Unit) (fun _ => [(11, I (y + cR x n)), (10, I (k : Int)), (9, I e), (8, I (i : Int)), (7, .sl 0), (0, rsNd t), (2, rsV ms), (4, .box 0 0)]) (fun _ => [hMf m]) (fun _ => [eN o]) (fun _ => True) (fun _ => rfl)
        case first =>
          intro fin2
          (repeat (first | (refine r_op ?_; refine r_pure hT rfl rfl rfl rfl rfl rfl ?_) | refine gi_plain ?_))
          refine r_idx (row := x.row) hT rfl rfl rfl rfl rfl rfl rfl rfl rfl rfl rfl rfl (by show (0 : Int) ≤ (i : Int); omega) (by simp [hx]) ?_
          (repeat ((refine r_op ?_; first | refine r_pure hT rfl rfl rfl rfl rfl rfl ?_ | refine r_load hT rfl rfl rfl rfl rfl rfl rfl rfl rfl ?_)))
          refine r_case (d := 55) rfl (fun d1 => ?_) (fun d1 => ?_)
          · have hc : cR x n = 1 := if_pos (.inl (by rw [eqB_eq] at d1; exact of_decide_eq_true d1))
            (repeat (first | refine r_end ?_ | (refine r_op ?_; first | refine r_pure hT rfl rfl rfl rfl rfl rfl ?_ | refine r_off rfl rfl rfl rfl rfl ?_) | refine gi_seq ?_ | refine gi_plain_ne 13 rfl ?_ | (refine gi_cnd ?_; first | refine gi_true rfl ?_ | refine gi_false rfl ?_)))
            exact fin2 () _ _ _ trivial ⟨by show some (I _) = some (I (y + cR x n)); rw [hc, wr_i64 (by omega) (by omega)], rfl, rfl, rfl, rfl, rfl, rfl, rfl, trivial⟩ ⟨rfl, trivial⟩ ⟨rfl, trivial⟩
          · have d1 : x.v.k ≠ 2 := by rw [eqB_eq] at d1; exact of_decide_eq_false d1
            (repeat ((refine r_op ?_; refine r_pure hT rfl rfl rfl rfl rfl rfl ?_)))
            refine r_idx (row := n.row) hT rfl rfl rfl rfl rfl rfl rfl rfl rfl rfl rfl rfl (by show (0 : Int) ≤ (k : Int); omega) (by simp [hn]) ?_
            (repeat (first | refine r_end ?_ | (refine r_op ?_; first | refine r_pure hT rfl rfl rfl rfl rfl rfl ?_ | refine r_load hT rfl rfl rfl rfl rfl rfl rfl rfl rfl ?_)))
            refine gi_eq (p := n.v.k) (q := 1) rfl (fun d2 => ?_) (fun d2 => ?_)
            · have hc : cR x n = 1 := if_pos (.inr d2)
              (repeat (first | refine r_end ?_ | (refine r_op ?_; refine r_pure hT rfl rfl rfl rfl rfl rfl ?_) | refine gi_seq ?_ | refine gi_plain_ne 13 rfl ?_))
              exact fin2 () _ _ _ trivial ⟨by show some (I _) = some (I (y + cR x n)); rw [hc, wr_i64 (by omega) (by omega)], rfl, rfl, rfl, rfl, rfl, rfl, rfl, trivial⟩ ⟨rfl, trivial⟩ ⟨rfl, trivial⟩
            · have hc : cR x n = 0 := if_neg (fun h => by rcases h with h | h <;> contradiction)
              (repeat (first | refine gi_seq ?_ | refine gi_skip ?_))
              exact fin2 () _ _ _ trivial ⟨by show some (I _) = some (I (y + cR x n)); rw [hc, Int.add_zero], rfl, rfl, rfl, rfl, rfl, rfl, rfl, trivial⟩ ⟨rfl, trivial⟩ ⟨rfl, trivial⟩
        case after =>
          intro _ _
          have hadd := hE.add (by omega) hn hy hp (by omega)
          (repeat (first | (refine r_op ?_; refine r_pure hT rfl rfl rfl rfl rfl rfl ?_) | refine gi_plain ?_))
          refine r_case (d := 68) rfl (fun g1 => ?_) (fun g1 => ?_)
          · rw [ltB_eq] at g1
            have g1 := of_decide_eq_true g1
            rw [if_pos (.inl g1)] at hadd
            (repeat (first | refine r_end ?_ | (refine r_op ?_; first | refine r_pure hT rfl rfl rfl rfl rfl rfl ?_ | refine r_off rfl rfl rfl rfl rfl ?_) | refine gi_plain ?_ | refine gi_inBlock ?_ | (refine gi_cnd ?_; first | refine gi_true rfl ?_ | refine gi_false rfl ?_)))
            exact on _ hadd _ _ _ ⟨rfl, rfl, rfl, rfl, rfl, rfl, rfl, trivial⟩ ⟨rfl, trivial⟩ ⟨rfl, trivial⟩
          · rw [ltB_eq] at g1
            have g1 := of_decide_eq_false g1
            (repeat (first | refine r_end ?_ | (refine r_op ?_; refine r_pure hT rfl rfl rfl rfl rfl rfl ?_)))
            refine gi_lt (p := y + cR x n) (q := e) rfl (fun g2 => ?_) (fun g2 => ?_)
            · rw [if_pos (.inr g2)] at hadd
              (repeat (first | refine r_end ?_ | (refine r_op ?_; refine r_pure hT rfl rfl rfl rfl rfl rfl ?_) | refine gi_plain ?_ | refine gi_inBlock ?_))
              exact on _ hadd _ _ _ ⟨rfl, rfl, rfl, rfl, rfl, rfl, rfl, trivial⟩ ⟨rfl, trivial⟩ ⟨rfl, trivial⟩
            · rw [if_neg (fun h => by rcases h with h | h <;> contradiction)] at hadd
              (repeat (first | refine r_end ?_ | (refine r_op ?_; refine r_pure hT rfl rfl rfl rfl rfl rfl ?_) | refine gi_plain ?_ | refine gi_skip ?_ | refine gi_inBlock ?_))
              exact on _ hadd _ _ _ ⟨rfl, rfl, rfl, rfl, rfl, rfl, rfl, trivial⟩ ⟨rfl, trivial⟩ ⟨rfl, trivial⟩
      · rw [List.length_map] at h4
        have hkl : k = t.length := by omega
        subst hkl
        clear next2
        (repeat (first | refine gi_seq ?_ | refine gi_block ?_ | refine gi_exit rfl ?_))
        exact fin e _ _ _ hE ⟨rfl, rfl, rfl, rfl, rfl, rfl, trivial⟩ ⟨rfl, trivial⟩ ⟨rfl, trivial⟩
    case after =>
    intro e hE
    have hst := hP.step hx hxk hE
    apply gi_cut (σ := Unit) (fun _ => [(9, I (valP m.wl ms x e)), (8, I (i : Int)), (7, .sl 0), (0, rsNd t), (2, rsV ms), (4, .box 0 0)]) (fun _ => [hMf m]) (fun _ => [eN o]) (fun _ => True) (fun _ => rfl)
    case first =>
      intro fin3
      refine gi_drawM [] [(0, .p), (1, .p), (2, .p), (3, .p), (4, .p), (5, .t), (6, .p), (7, .p), (8, .p), (10, .p), (11, .p), (12, .p), (13, .p), (14, .p), (9, .t), (15, .t), (16, .o), (17, .p), (18, .p)] [0, 0, 3, 4, 8, 16, 32, 64, 128, 384, 128, 128, 3200, 4224, 8320, 16512, 33408, 65664, 196608] [0, 0, 3, 4, 8, 16, 32, 64, 128, 384, 128, 128, 3200, 4224, 8320, 16512, 33408, 65664, 131072] hm rfl (by kernel_rfl) (fun w1 K => ?_)
      (repeat ((refine r_op ?_; refine r_pure hT rfl rfl rfl rfl rfl rfl ?_)))
      refine r_idx (row := x.row) hT rfl rfl rfl rfl rfl rfl rfl rfl rfl rfl rfl rfl (by show (0 : Int) ≤ (i : Int); omega) (by simp [hx]) ?_
      (repeat ((refine r_op ?_; first | refine r_pure hT rfl rfl rfl rfl rfl rfl ?_ | refine r_load hT rfl rfl rfl rfl rfl rfl rfl rfl rfl ?_)))
      refine r_case (d := 82) rfl (fun w1 => ?_) (fun w1 => ?_)
      · have hk1 : x.v.k = 1 := by rw [eqB_eq] at w1; exact of_decide_eq_true w1
        (repeat ((refine r_op ?_; refine r_pure hT rfl rfl rfl rfl rfl rfl ?_)))
        refine r_idx (row := x.row) hT rfl rfl rfl rfl rfl rfl rfl rfl rfl rfl rfl rfl (by show (0 : Int) ≤ (i : Int); omega) (by simp [hx]) ?_
        (repeat ((refine r_op ?_; first | refine r_pure hT rfl rfl rfl rfl rfl rfl ?_ | refine r_load hT rfl rfl rfl rfl rfl rfl rfl rfl rfl ?_)))
        refine r_thaw 84 rfl ?_
        refine r_call (Has_ok m.wl x.v.i hw) rfl rfl rfl rfl rfl rfl rfl rfl Try.func57 rfl rfl rfl pB ?_
        rintro r2 S2 ⟨rfl, rfl⟩
        (repeat (first | refine r_end ?_ | (refine r_op ?_; refine r_pure hT rfl rfl rfl rfl rfl rfl ?_)))
        refine gi_cond rfl (fun hwd => ?_) (fun hwd => ?_)
        · have hw1 : isW m.wl x = true := by unfold isW; rw [← contains_any, hwd, decide_eq_true hk1]; rfl
          (repeat (first | refine r_end ?_ | (refine r_op ?_; refine r_pure hT rfl rfl rfl rfl rfl rfl ?_) | refine gi_plain_ne 19 rfl ?_ | refine gi_inBlock ?_))
          exact fin3 () _ _ _ trivial ⟨by show some (I _) = some (I (valP m.wl ms x e)); unfold valP; rw [if_pos hw1], rfl, rfl, rfl, rfl, rfl, trivial⟩ ⟨rfl, trivial⟩ ⟨rfl, trivial⟩
        · have hw0 : isW m.wl x = false := by unfold isW; rw [← contains_any, hwd, Bool.and_false]
          (repeat (first | (refine r_op ?_; refine r_pure hT rfl rfl rfl rfl rfl rfl ?_) | refine gi_seq ?_ | refine gi_plain ?_))
          refine r_idx (row := x.row) hT rfl rfl rfl rfl rfl rfl rfl rfl rfl rfl rfl rfl (by show (0 : Int) ≤ (i : Int); omega) (by simp [hx]) ?_
          (repeat ((refine r_op ?_; first | refine r_pure hT rfl rfl rfl rfl rfl rfl ?_ | refine r_load hT rfl rfl rfl rfl rfl rfl rfl rfl rfl ?_)))
          refine r_call (in17_ok ms x.v hms) rfl rfl rfl rfl rfl rfl rfl rfl Try.func58 rfl rfl rfl pB ?_
          rintro r3 S3 ⟨rfl, rfl⟩
          (repeat (first | refine r_end ?_ | (refine r_op ?_; refine r_pure hT rfl rfl rfl rfl rfl rfl ?_)))
          refine gi_cond rfl (fun hmb => ?_) (fun hmb => ?_)
          · have hmb : isMb ms x = true := hmb
            (repeat (first | refine r_end ?_ | (refine r_op ?_; refine r_pure hT rfl rfl rfl rfl rfl rfl ?_) | refine gi_plain_ne 19 rfl ?_ | refine gi_inBlock ?_))
            exact fin3 () _ _ _ trivial ⟨by show some (I _) = some (I (valP m.wl ms x e)); unfold valP; rw [if_neg (by rw [hw0]; decide), if_pos hmb], rfl, rfl, rfl, rfl, rfl, trivial⟩ ⟨rfl, trivial⟩ ⟨rfl, trivial⟩
          · have hmb : isMb ms x = false := hmb
            (repeat (first | refine gi_skip ?_ | refine gi_inBlock ?_))
            exact fin3 () _ _ _ trivial ⟨by show some (I _) = some (I (valP m.wl ms x e)); unfold valP; rw [if_neg (by rw [hw0]; decide), if_neg (by rw [hmb]; decide)], rfl, rfl, rfl, rfl, rfl, trivial⟩ ⟨rfl, trivial⟩ ⟨rfl, trivial⟩
      · have hk1 : x.v.k ≠ 1 := by rw [eqB_eq] at w1; exact of_decide_eq_false w1
        have hw0 : isW m.wl x = false := by unfold isW; rw [decide_eq_false hk1]; rfl
        (repeat (first | refine r_end ?_ | (refine r_op ?_; first | refine r_pure hT rfl rfl rfl rfl rfl rfl ?_ | refine r_off rfl rfl rfl rfl rfl ?_) | refine gi_seq ?_ | refine gi_plain ?_ | (refine gi_cnd ?_; first | refine gi_true rfl ?_ | refine gi_false rfl ?_)))
        refine r_idx (row := x.row) hT rfl rfl rfl rfl rfl rfl rfl rfl rfl rfl rfl rfl (by show (0 : Int) ≤ (i : Int); omega) (by simp [hx]) ?_
        (repeat ((refine r_op ?_; first | refine r_pure hT rfl rfl rfl rfl rfl rfl ?_ | refine r_load hT rfl rfl rfl rfl rfl rfl rfl rfl rfl ?_)))
        refine r_call (in17_ok ms x.v hms) rfl rfl rfl rfl rfl rfl rfl rfl Try.func58 rfl rfl rfl pB ?_
        rintro r3 S3 ⟨rfl, rfl⟩
        (repeat (first | refine r_end ?_ | (refine r_op ?_; refine r_pure hT rfl rfl rfl rfl rfl rfl ?_)))
        refine gi_cond rfl (fun hmb => ?_) (fun hmb => ?_)
        · have hmb : isMb ms x = true := hmb
          (repeat (first | refine r_end ?_ | (refine r_op ?_; refine r_pure hT rfl rfl rfl rfl rfl rfl ?_) | refine gi_plain_ne 19 rfl ?_ | refine gi_inBlock ?_))
          exact fin3 () _ _ _ trivial ⟨by show some (I _) = some (I (valP m.wl ms x e)); unfold valP; rw [if_neg (by rw [hw0]; decide), if_pos hmb], rfl, rfl, rfl, rfl, rfl, trivial⟩ ⟨rfl, trivial⟩ ⟨rfl, trivial⟩
        · have hmb : isMb ms x = false := hmb
          (repeat (first | refine gi_skip ?_ | refine gi_inBlock ?_))
          exact fin3 () _ _ _ trivial ⟨by show some (I _) = some (I (valP m.wl ms x e)); unfold valP; rw [if_neg (by rw [hw0]; decide), if_neg (by rw [hmb]; decide)], rfl, rfl, rfl, rfl, rfl, trivial⟩ ⟨rfl, trivial⟩ ⟨rfl, trivial⟩
    case after =>
    intro _ _
    (repeat (first | (refine r_op ?_; refine r_pure hT rfl rfl rfl rfl rfl rfl ?_) | refine gi_plain ?_))
    refine r_idxS hT rfl rfl rfl rfl rfl rfl rfl rfl rfl rfl rfl rfl rfl (by show (0 : Int) ≤ (i : Int); omega) (by show ((i : Nat) : Int).toNat < (o.map nRow).length; rw [List.length_map]; omega) ?_
    skip
    refine r_storeS (row := nRow (o[i]'(by omega))) hT rfl rfl rfl rfl rfl rfl rfl rfl rfl rfl rfl rfl rfl (by show (List.map nRow _)[((i : Nat) : Int).toNat]? = _; rw [Int.toNat_natCast, List.getElem?_map, List.getElem?_eq_getElem (by omega)]; rfl) ?_
    (repeat (first | refine r_end ?_ | (refine r_op ?_; refine r_pure hT rfl rfl rfl rfl rfl rfl ?_) | refine gi_plain ?_ | refine gi_inBlock ?_))
    refine next (i, o.set i (valP m.wl ms x e)) _ _ _ ⟨by simp only; omega, hst⟩ (by simp only; omega) ⟨?_, rfl, rfl, rfl, rfl, trivial⟩ ⟨rfl, trivial⟩ ⟨?_, trivial⟩
    · show some (I (wr .i64 ((i : Int) - 1))) = _
      rw [wr_i64 (by omega) (by omega)]
    · show eN (o.set i (valP m.wl ms x e)) = some (⟨_, _, (o.map nRow).set ((i : Nat) : Int).toNat (nRow (valP m.wl ms x e)), _⟩ : SE)
      rw [Int.toNat_natCast, ← List.map_set]
  · have hi00 : i0 = 0 := by omega
    subst hi00
    (repeat (first | refine r_end ?_ | (refine r_op ?_; refine r_pure hT rfl rfl rfl rfl rfl rfl ?_) | refine gi_seq ?_ | refine gi_plain ?_ | refine gi_exit rfl ?_))
    refine gi_retX hT Try.func24 rfl [] [0] rfl rfl rfl rfl rfl rfl rfl rfl ?_
    exact ⟨rfl, rfl, o, rfl, hP.rch⟩
end Go.Proofs.Ytmocggibcniggaa.Kt
namespace Go.Proofs.Ytmocggibcniggaa.Kt
open Go Kw Go.Proofs
theorem pTreeLC (l : List Ls) (root : Vt) (h : Few l) : FnR Try.prog 49 [avMf (mapL l), root.av] (RT1 (refTree (mapL l) root)) := pTreeL l root h
theorem Nodes_okC (t : List Nd) (h : t.length < 1000000) : FnR Try.prog 21 [rsNd t, rsNd t] (RB true) := Nodes_ok t h
end Go.Proofs.Ytmocggibcniggaa.Kt
namespace Go.Proofs.Ytmocggibcniggaa.Kt
open Go Kw Go.Proofs
attribute [local irreducible] Kw.GI Kw.GR Kw.FnR Kw.FnX
set_option maxHeartbeats 8000000
set_option maxRecDepth 100000
/-- The tree from where an address is. -/
def castT (m : Mp) (s : Src) : List Nd := if s.ok = true then refTree m s.v else []
theorem rCast_ok (l : List Ls) (hf : Few l) (a : Int) (h1 : (mapL l).sn.length < 1000000) (h2 : (mapL l).sb.length < 100000000) : FnX Try.prog 19 [avMf (mapL l), I a] [] [] (RV1 (eNd (castT (mapL l) (xrcF a (mapL l)).told))) := by
  refine fnX_intro (T := TT) (n := 22) Try.func19 rfl rfl rfl (fun w X Z Y B => ?_)
  (repeat (first | refine r_end ?_ | (refine r_op ?_; first | refine r_pure hT rfl rfl rfl rfl rfl rfl ?_ | refine r_load hT rfl rfl rfl rfl rfl rfl rfl rfl rfl ?_ | refine r_box rfl rfl rfl rfl rfl rfl rfl rfl rfl ?_) | refine gi_seq ?_ | refine gi_plain ?_))
  refine r_call (rSource_ok (mapL l) a h1 h2) rfl rfl rfl rfl rfl rfl rfl rfl Try.func17 rfl rfl rfl pSrc ?_
  rintro r S1 ⟨rfl, rfl⟩
  generalize (xrcF a (mapL l)).told = s
  (repeat (first | refine r_end ?_ | (refine r_op ?_; first | refine r_pure hT rfl rfl rfl rfl rfl rfl ?_ | refine r_store hT rfl rfl rfl rfl rfl rfl rfl rfl rfl rfl ?_ | refine r_alloc hT rfl rfl rfl rfl rfl rfl rfl rfl rfl ?_) | refine gi_seq ?_ | refine gi_plain ?_))
  refine gi_cond rfl (fun c1 => ?_) (fun c1 => ?_)
  · rw [notB_eq, Bool.not_eq_true'] at c1
    (repeat (first | refine r_end ?_ | (refine r_op ?_; refine r_pure hT rfl rfl rfl rfl rfl rfl ?_) | refine gi_seq ?_ | refine gi_plain ?_))
    refine gi_adopt (e := 58) (sz := 5) 4 rfl ?_
    refine gi_retX hT Try.func19 rfl [] [0] rfl rfl rfl rfl rfl rfl rfl rfl ?_
    refine ⟨rfl, rfl, ?_⟩
    unfold castT
    rw [if_neg (by rw [c1]; decide)]
    rfl
  · rw [notB_eq, Bool.not_eq_false'] at c1
    (repeat (first | (refine r_op ?_; refine r_load hT rfl rfl rfl rfl rfl rfl rfl rfl rfl ?_) | refine gi_seq ?_ | refine gi_plain ?_ | refine gi_skip ?_))
    refine r_call (rTreeL l s.v hf) rfl rfl rfl rfl rfl rfl rfl rfl Try.func50 rfl rfl rfl pT1 ?_
    rintro r S1 ⟨rfl, rfl⟩
    (repeat (first | refine r_end ?_ | (refine r_op ?_; refine r_pure hT rfl rfl rfl rfl rfl rfl ?_)))
    refine gi_retX hT Try.func19 rfl [] [0] rfl rfl rfl rfl rfl rfl rfl rfl ?_
    refine ⟨rfl, rfl, ?_⟩
    unfold castT
    rw [if_pos c1]
theorem pTreeC_ok (l : List Ls) (hf : Few l) (a : Int) (h1 : (mapL l).sn.length < 1000000) (h2 : (mapL l).sb.length < 100000000) : FnX Try.prog 18 [avMf (mapL l), I a] [] [] (RV1 (eNd (castT (mapL l) (srcF a (mapL l))))) := by
  refine fnX_intro (T := TT) (n := 22) Try.func18 rfl rfl rfl (fun w X Z Y B => ?_)
  (repeat (first | refine r_end ?_ | (refine r_op ?_; first | refine r_pure hT rfl rfl rfl rfl rfl rfl ?_ | refine r_load hT rfl rfl rfl rfl rfl rfl rfl rfl rfl ?_ | refine r_box rfl rfl rfl rfl rfl rfl rfl rfl rfl ?_) | refine gi_seq ?_ | refine gi_plain ?_))
  refine r_call (pSource_ok (mapL l) a h1 h2) rfl rfl rfl rfl rfl rfl rfl rfl Try.func16 rfl rfl rfl pSrc ?_
  rintro r S1 ⟨rfl, rfl⟩
  generalize srcF a (mapL l) = s
  (repeat (first | refine r_end ?_ | (refine r_op ?_; first | refine r_pure hT rfl rfl rfl rfl rfl rfl ?_ | refine r_store hT rfl rfl rfl rfl rfl rfl rfl rfl rfl rfl ?_ | refine r_alloc hT rfl rfl rfl rfl rfl rfl rfl rfl rfl ?_) | refine gi_seq ?_ | refine gi_plain ?_))
  refine gi_cond rfl (fun c1 => ?_) (fun c1 => ?_)
  · rw [notB_eq, Bool.not_eq_true'] at c1
    (repeat (first | refine r_end ?_ | (refine r_op ?_; refine r_pure hT rfl rfl rfl rfl rfl rfl ?_) | refine gi_seq ?_ | refine gi_plain ?_))
    refine gi_adopt (e := 58) (sz := 5) 4 rfl ?_
    refine gi_retX hT Try.func18 rfl [] [0] rfl rfl rfl rfl rfl rfl rfl rfl ?_
    refine ⟨rfl, rfl, ?_⟩
    unfold castT
    rw [if_neg (by rw [c1]; decide)]
    rfl
  · rw [notB_eq, Bool.not_eq_false'] at c1
    (repeat (first | (refine r_op ?_; refine r_load hT rfl rfl rfl rfl rfl rfl rfl rfl rfl ?_) | refine gi_seq ?_ | refine gi_plain ?_ | refine gi_skip ?_))
    refine r_call (pTreeLC l s.v hf) rfl rfl rfl rfl rfl rfl rfl rfl Try.func49 rfl rfl rfl pT1 ?_
    rintro r S1 ⟨rfl, rfl⟩
    (repeat (first | refine r_end ?_ | (refine r_op ?_; refine r_pure hT rfl rfl rfl rfl rfl rfl ?_)))
    refine gi_retX hT Try.func18 rfl [] [0] rfl rfl rfl rfl rfl rfl rfl rfl ?_
    refine ⟨rfl, rfl, ?_⟩
    unfold castT
    rw [if_pos c1]
end Go.Proofs.Ytmocggibcniggaa.Kt
namespace Go.Proofs.Ytmocggibcniggaa.Kt
open Go Kw Go.Proofs
set_option maxHeartbeats 4000000
set_option maxRecDepth 100000
/-! ### routers that want all groups: the law -/
section
variable {t : List Nd} {W : List Int} {ms : List Vt} {a b c : List Int}
theorem wild_k {n : Nd} (h : n.v.k ≠ 1) : isW W n = false := by unfold isW; rw [decide_eq_false h]; rfl
/-- Who does not want all is at one at the least. -/
theorem Rch.one' (h : Rch t W ms a) : ∀ (j k : Nat) (n : Nd) (x : Int), t.length - k ≤ j → t[k]? = some n → a[k]? = some x → isW W n = false → 0 ≤ x → 1 ≤ x
  | 0, k, n, x, hj, hn, _, _, _ => by have := (List.getElem?_eq_some_iff.1 hn).1; omega
  | j + 1, k, n, x, hj, hn, hx, hw, h0 => by
    have hv := h.at_ k n x hn hx
    cases hm : isMb ms n with
    | true => rw [hv.me hw hm]; omega
    | false =>
      obtain ⟨k', m, y, hk, hm', _, hy, hy0, rfl⟩ := hv.or hw hm h0
      have h1 := cK_b n m
      have h2 := cP_b n
      by_cases hk1 : n.v.k = 1
      · by_cases hm1 : m.v.k = 1
        · have : cK n m = 1 := if_pos ⟨hm1, hk1⟩
          omega
        · have := Rch.one' h j k' m y (by omega) hm' hy (wild_k hm1) hy0
          omega
      · have : cP n = 1 := if_neg hk1
        omega
theorem Rch.more (ha : Rch t [] ms a) (hb : Rch t W ms b) : ∀ (j k : Nat) (n : Nd) (x y : Int), t.length - k ≤ j → t[k]? = some n → a[k]? = some x → b[k]? = some y → 0 ≤ x → 0 ≤ y ∧ y ≤ x
  | 0, k, n, x, y, hj, hn, _, _, _ => by have := (List.getElem?_eq_some_iff.1 hn).1; omega
  | j + 1, k, n, x, y, hj, hn, hx, hy, h0 => by
    have va := ha.at_ k n x hn hx
    have vb := hb.at_ k n y hn hy
    cases hw : isW W n with
    | true => rw [vb.wi hw]; omega
    | false =>
      cases hm : isMb ms n with
      | true => rw [vb.me hw hm, va.me (isW_nil n) hm]; omega
      | false =>
        obtain ⟨k', m, x', hk, hm', hp, hx', hx0, rfl⟩ := va.or (isW_nil n) hm h0
        obtain ⟨y', hy'⟩ : ∃ y', b[k']? = some y' := ⟨_, List.getElem?_eq_getElem (by rw [hb.lo]; exact (List.getElem?_eq_some_iff.1 hm').1)⟩
        obtain ⟨q1, q2⟩ := Rch.more ha hb j k' m x' y' (by omega) hm' hx' hy' hx0
        have := vb.le hw hm k' m y' hk hm' hp hy' q1
        omega
theorem Rch.mem (hc : Rch t W [] c) (hb : Rch t W ms b) : ∀ (j k : Nat) (n : Nd) (x y : Int), t.length - k ≤ j → t[k]? = some n → c[k]? = some x → b[k]? = some y → 0 ≤ x → 0 ≤ y ∧ y ≤ x
  | 0, k, n, x, y, hj, hn, _, _, _ => by have := (List.getElem?_eq_some_iff.1 hn).1; omega
  | j + 1, k, n, x, y, hj, hn, hx, hy, h0 => by
    have vc := hc.at_ k n x hn hx
    have vb := hb.at_ k n y hn hy
    cases hw : isW W n with
    | true => rw [vb.wi hw]; omega
    | false =>
      have h1 := hc.one' t.length k n x (by omega) hn hx hw h0
      cases hm : isMb ms n with
      | true => rw [vb.me hw hm]; omega
      | false =>
        obtain ⟨k', m, x', hk, hm', hp, hx', hx0, rfl⟩ := vc.or hw rfl h0
        obtain ⟨y', hy'⟩ : ∃ y', b[k']? = some y' := ⟨_, List.getElem?_eq_getElem (by rw [hb.lo]; exact (List.getElem?_eq_some_iff.1 hm').1)⟩
        obtain ⟨q1, q2⟩ := Rch.mem hc hb j k' m x' y' (by omega) hm' hx' hy' hx0
        have := vb.le hw hm k' m y' hk hm' hp hy' q1
        omega
theorem Rch.same (ha : Rch t [] ms a) (hb : Rch t W ms b) (hc : Rch t W [] c) : ∀ (j k : Nat) (n : Nd) (x y z : Int), t.length - k ≤ j → t[k]? = some n → a[k]? = some x → b[k]? = some y → c[k]? = some z → x < 0 → y = z
  | 0, k, n, x, y, z, hj, hn, _, _, _, _ => by have := (List.getElem?_eq_some_iff.1 hn).1; omega
  | j + 1, k, n, x, y, z, hj, hn, hx, hy, hz, h0 => by
    have va := ha.at_ k n x hn hx
    have vb := hb.at_ k n y hn hy
    have vc := hc.at_ k n z hn hz
    cases hw : isW W n with
    | true => rw [vb.wi hw, vc.wi hw]
    | false =>
      cases hm : isMb ms n with
      | true => have := va.me (isW_nil n) hm; omega
      | false =>
        have kid : ∀ (k' : Nat) (m : Nd) (y' z' : Int), k < k' → t[k']? = some m → m.p = k → b[k']? = some y' → c[k']? = some z' → y' = z' := fun k' m y' z' hk hm' hp hy' hz' => by
          obtain ⟨x', hx'⟩ : ∃ x', a[k']? = some x' := ⟨_, List.getElem?_eq_getElem (by rw [ha.lo]; exact (List.getElem?_eq_some_iff.1 hm').1)⟩
          refine Rch.same ha hb hc j k' m x' y' z' (by omega) hm' hx' hy' hz' ?_
          refine Int.not_le.1 (fun h => ?_)
          have := (va.le (isW_nil n) hm k' m x' hk hm' hp hx' h).1
          omega
        have ry := hb.rng k y hy
        have rz := hc.rng k z hz
        have e1 : 0 ≤ y → 0 ≤ z ∧ z ≤ y := fun hy0 => by
          obtain ⟨k', m, y', hk, hm', hp, hy', hy1, rfl⟩ := vb.or hw hm hy0
          obtain ⟨z', hz'⟩ : ∃ z', c[k']? = some z' := ⟨_, List.getElem?_eq_getElem (by rw [hc.lo]; exact (List.getElem?_eq_some_iff.1 hm').1)⟩
          have := kid k' m y' z' hk hm' hp hy' hz'
          subst this
          exact vc.le hw rfl k' m y' hk hm' hp hz' hy1
        have e2 : 0 ≤ z → 0 ≤ y ∧ y ≤ z := fun hz0 => by
          obtain ⟨k', m, z', hk, hm', hp, hz', hz1, rfl⟩ := vc.or hw rfl hz0
          obtain ⟨y', hy'⟩ : ∃ y', b[k']? = some y' := ⟨_, List.getElem?_eq_getElem (by rw [hb.lo]; exact (List.getElem?_eq_some_iff.1 hm').1)⟩
          have := kid k' m y' z' hk hm' hp hy' hz'
          subst this
          exact vb.le hw hm k' m y' hk hm' hp hy' hz1
        omega
theorem Rch.none (hc : Rch t [] [] c) : ∀ (j k : Nat) (x : Int), t.length - k ≤ j → c[k]? = some x → x = -1
  | 0, k, x, hj, hx => by have := (List.getElem?_eq_some_iff.1 hx).1; have := hc.lo; omega
  | j + 1, k, x, hj, hx => by
    have hl := (List.getElem?_eq_some_iff.1 hx).1
    rw [hc.lo] at hl
    obtain ⟨n, hn⟩ : ∃ n, t[k]? = some n := ⟨_, List.getElem?_eq_getElem hl⟩
    have hr := hc.rng k x hx
    have : ¬ 0 ≤ x := fun h0 => by
      obtain ⟨k', m, y', hk, hm', hp, hy', hy1, _⟩ := (hc.at_ k n x hn hx).or (isW_nil n) rfl h0
      have := Rch.none hc j k' y' (by omega) hy'
      omega
    omega
theorem Rch.nones (hc : Rch t [] [] c) : c = List.replicate t.length (-1) := by
  refine List.eq_replicate_iff.2 ⟨hc.lo, fun x hx => ?_⟩
  obtain ⟨k, hk⟩ := List.mem_iff_getElem?.1 hx
  exact hc.none t.length k x (by omega) hk
end
/-! ### one of Graph's routers wants all -/
def Ls.wild (x : Ls) : Ls := { x with fl := 8 }
theorem wl_mem {l : List Ls} {w : Nat} {v : Vt} {x : Ls} (hv : v ∈ (mapL l).vs) (hk : v = ⟨1, w⟩) (hf : findL l v = some x) (hx : x.fl = 8) : (w : Int) ∈ (mapL l).wl := by
  show _ ∈ (vertsL l).flatMap (wlF l)
  refine List.mem_flatMap.2 ⟨v, hv, ?_⟩
  subst hk
  have h1 : wlF l ⟨1, w⟩ = wl1 l ⟨1, w⟩ := by
    unfold wlF
    have : eqB (1 : Int) 2 = false := by kernel_rfl
    simp only [this]
  rw [h1]
  unfold wl1
  rw [hf]
  show _ ∈ (match notB (eqB (Go.bits .and .i64 x.fl 8) 0) with | true => _ | false => _)
  rw [hx]
  have : notB (eqB (Go.bits .and .i64 8 8) 0) = true := by kernel_rfl
  rw [this]
  exact List.mem_singleton.2 rfl
end Go.Proofs.Ytmocggibcniggaa.Kt
namespace Go.Proofs.Ytmocggibcniggaa.Kt
open Go Kw Go.Proofs
set_option maxHeartbeats 4000000
set_option maxRecDepth 100000
theorem fold_is {v : Vt} : ∀ (l : List Ls) (m : Option Ls), m.isSome = true → (l.foldl (fdS v) m).isSome = true
  | [], m, h => h
  | y :: l, m, h => by
    rw [List.foldl_cons]
    refine fold_is l _ ?_
    unfold fdS
    split
    · rfl
    · exact h
theorem fold_has {v : Vt} {x : Ls} (ha : x.age < 3600) (hk : isV v x = true) (hi : x.id = v.i) : ∀ (l : List Ls) (m : Option Ls), x ∈ l → (l.foldl (fdS v) m).isSome = true
  | y :: l, m, h => by
    rw [List.foldl_cons]
    rcases List.mem_cons.1 h with rfl | h
    · refine fold_is l _ ?_
      unfold fdS
      rw [decide_eq_true ha, hk, decide_eq_true hi]
      cases m with
      | none => rfl
      | some z => simp only [Option.isSome_some, Bool.not_true, Bool.false_or, Bool.true_and]; split <;> rfl
    · exact fold_has ha hk hi l _ h
theorem few_set {l : List Ls} (h : Few l) {w : Nat} {x : Ls} (hx : l[w]? = some x) : Few (l.set w x.wild) := by
  have key : ∀ y ∈ l.set w x.wild, y = x.wild ∨ y ∈ l := fun y hy => by
    rcases List.mem_or_eq_of_mem_set hy with h | h
    · exact .inr h
    · exact .inl h
  have hxl := List.mem_of_getElem? hx
  refine ⟨by rw [List.length_set]; exact h.len, fun y hy => ?_, fun y hy => ?_⟩
  · rcases key y hy with rfl | hy
    · exact h.lk x hxl
    · exact h.lk y hy
  · rcases key y hy with rfl | hy
    · exact h.rt x hxl
    · exact h.rt y hy
/-- The router that wants all is told so by the map. -/
theorem wild_in {n : Int} {l : List Ls} (hl : GrOk n l) {k : Nat} (hk : (k : Int) = 1 + n % 6) {w : Nat} (hw : w < k) : ∃ x, l[w]? = some x ∧ (mapL (l.set w x.wild)).vs ≠ [] ∧ ∀ v ∈ (mapL (l.set w x.wild)).vs, v = ⟨1, (w : Int) + 1⟩ → (w : Int) + 1 ∈ (mapL (l.set w x.wild)).wl := by
  obtain ⟨k', gs, ns, h1, rfl, h2, h3, h4⟩ := hl.ex
  have hkk : k' = k := by omega
  subst hkk
  have hg := h2.len
  obtain ⟨x, hx⟩ : ∃ x, gs[w]? = some x := ⟨_, List.getElem?_eq_getElem (by omega)⟩
  have hx' : (gs ++ ns)[w]? = some x := by rw [List.getElem?_append_left (by omega)]; exact hx
  obtain ⟨e1, _, _⟩ := h2.el w x hx
  have hin : x.wild ∈ (gs ++ ns).set w x.wild := List.mem_of_getElem? (List.getElem?_set_self (by rw [List.length_append]; omega))
  have hv1 : isV ⟨1, (w : Int) + 1⟩ x.wild = true := by
    rw [e1]
    unfold isV Ls.wild
    simp
  have hs := fold_has (v := ⟨1, (w : Int) + 1⟩) (x := x.wild) (by rw [e1]; exact (by decide : (0 : Int) < 3600)) hv1 (by rw [e1]; rfl) ((gs ++ ns).set w x.wild) none hin
  refine ⟨x, hx', fun h => ?_, fun v hv hve => ?_⟩
  · have hvm : (⟨1, (w : Int) + 1⟩ : Vt) ∈ (mapL ((gs ++ ns).set w x.wild)).vs := find_vert hs
    rw [h] at hvm
    cases hvm
  obtain ⟨y, hy⟩ := Option.isSome_iff_exists.1 hs
  have hyf : findL ((gs ++ ns).set w x.wild) v = some y := by rw [hve]; exact hy
  have hyx : y.fl = 8 := by
    obtain ⟨q1, q2, q3, q4⟩ := find_is hyf
    rw [hve] at q3 q4
    rcases List.mem_iff_getElem?.1 q1 with ⟨j, hj⟩
    by_cases hjw : j = w
    · subst hjw
      rw [List.getElem?_set_self (by rw [List.length_append]; omega)] at hj
      rw [← Option.some.inj hj]; rfl
    · rw [List.getElem?_set_ne (fun h => hjw h.symm)] at hj
      by_cases hjg : j < gs.length
      · rw [List.getElem?_append_left hjg] at hj
        obtain ⟨e2, _, _⟩ := h2.el j y hj
        rw [e2] at q4
        have q4 : ((j : Int) + 1) = (w : Int) + 1 := q4
        omega
      · rw [List.getElem?_append_right (by omega)] at hj
        obtain ⟨e2, _⟩ := h3 y (List.mem_of_getElem? hj)
        rw [e2] at q3
        unfold isV at q3
        simp at q3
  have := wl_mem (w := w + 1) hv (by rw [hve]; rfl) hyf hyx
  simpa using this
end Go.Proofs.Ytmocggibcniggaa.Kt
namespace Go.Proofs.Ytmocggibcniggaa.Kt
open Go Kw Go.Proofs
set_option maxHeartbeats 4000000
set_option maxRecDepth 100000
/-! ### routers with one stub each: where an address is -/
def stb (i : Nat) (p b : Int) : Ls := ⟨0, 1, 1 + (i : Int), 1 + (i : Int), 0, 0, 0, 0, [⟨3, p, maskF b, 1⟩], 0, [], []⟩
def stbs (f g : Nat → Int) (n : Nat) : List Ls := (List.range n).map (fun i => stb i (f i) (g i))
section
variable {f g : Nat → Int} {n : Nat}
theorem stbs_mem {x : Ls} : x ∈ stbs f g n ↔ ∃ i, i < n ∧ x = stb i (f i) (g i) := by
  unfold stbs
  rw [List.mem_map]
  constructor
  · rintro ⟨i, hi, rfl⟩; exact ⟨i, List.mem_range.1 hi, rfl⟩
  · rintro ⟨i, hi, rfl⟩; exact ⟨i, List.mem_range.2 hi, rfl⟩
theorem stbs_few (hn : n ≤ 12) : Few (stbs f g n) where
  len := by unfold stbs; rw [List.length_map, List.length_range]; omega
  lk := fun x hx => by obtain ⟨i, _, rfl⟩ := stbs_mem.1 hx; exact (by decide : 1 ≤ 1000)
  rt := fun x hx => by obtain ⟨i, _, rfl⟩ := stbs_mem.1 hx; exact (by decide : 0 ≤ 1000)
theorem stbs_v {x : Vt} : x ∈ vertsL (stbs f g n) ↔ ∃ i, i < n ∧ x = ⟨1, 1 + (i : Int)⟩ := by
  rw [verts_mem]
  constructor
  · rintro ⟨y, hy, h1, h2⟩
    obtain ⟨i, hi, rfl⟩ := stbs_mem.1 hy
    rcases h2 with ⟨_, _, h⟩ | ⟨h, _⟩
    · exact ⟨i, hi, h⟩
    · exact absurd h (by show ¬ (1 : Int) = 2; decide)
  · rintro ⟨i, hi, rfl⟩
    exact ⟨_, stbs_mem.2 ⟨i, hi, rfl⟩, by show (0 : Int) < 3600; decide, .inl ⟨rfl, rfl, rfl⟩⟩
theorem stbs_find {i : Nat} (hi : i < n) : findL (stbs f g n) ⟨1, 1 + (i : Int)⟩ = some (stb i (f i) (g i)) := by
  have h : ∃ x, findL (stbs f g n) ⟨1, 1 + (i : Int)⟩ = some x := Option.isSome_iff_exists.1 (fold_has (by show (0 : Int) < 3600; decide) (by unfold isV; simp [stb]) rfl (stbs f g n) none (stbs_mem.2 ⟨i, hi, rfl⟩))
  obtain ⟨x, hx⟩ := h
  obtain ⟨h1, _, _, h4⟩ := find_is hx
  obtain ⟨j, hj, rfl⟩ := stbs_mem.1 h1
  have h4 : 1 + (j : Int) = 1 + (i : Int) := h4
  have : j = i := by omega
  subst this
  exact hx
theorem mask_bits_all : (List.range 33).all (fun n => decide (bitsF (maskF ((n : Nat) : Int)) = (n : Int))) = true := by kernel_rfl
theorem mask_bits {b : Int} (h0 : 0 ≤ b) (h1 : b ≤ 32) : bitsF (maskF b) = b := by
  obtain ⟨k, rfl⟩ : ∃ k : Nat, b = k := ⟨b.toNat, by omega⟩
  exact of_decide_eq_true (List.all_eq_true.1 mask_bits_all k (List.mem_range.2 (by omega)))
theorem stbs_es : (mapL (stbs f g n)).es = [] := by
  show (vertsL (stbs f g n)).flatMap (fromL (stbs f g n)) = []
  rw [List.flatMap_eq_nil_iff]
  intro v hv
  obtain ⟨i, hi, rfl⟩ := stbs_v.1 hv
  unfold fromL
  rw [stbs_find hi]
  show (([_] : List Lk).flatMap (edK (stbs f g n) ⟨1, 1 + (i : Int)⟩)) ++ edRs (stbs f g n) ⟨1, 1 + (i : Int)⟩ [] 0 = []
  unfold edRs
  rw [List.append_nil, List.flatMap_singleton]
  unfold edK edK1 edK2
  have e1 : eqB (3 : Int) 1 = false := by rw [eqB_eq]; decide
  have e2 : eqB (3 : Int) 2 = false := by rw [eqB_eq]; decide
  simp only [e1, e2, List.append_nil]
theorem stbs_sn : (mapL (stbs f g n)).sn = [] := by
  show (vertsL (stbs f g n)).flatMap (snF (stbs f g n)) = []
  rw [List.flatMap_eq_nil_iff]
  intro v hv
  obtain ⟨i, hi, rfl⟩ := stbs_v.1 hv
  have e2 : eqB (1 : Int) 2 = false := by rw [eqB_eq]; decide
  unfold snF
  simp only [e2]
theorem stbs_sb (hg : ∀ i, i < n → 0 ≤ g i ∧ g i ≤ 32) {x : Sb} : x ∈ (mapL (stbs f g n)).sb ↔ ∃ i, i < n ∧ x = ⟨1 + (i : Int), netF (f i) (g i), g i, 1⟩ := by
  have key : ∀ i, i < n → sbF (stbs f g n) ⟨1, 1 + (i : Int)⟩ = [⟨1 + (i : Int), netF (f i) (g i), g i, 1⟩] := fun i hi => by
    have e2 : eqB (1 : Int) 2 = false := by rw [eqB_eq]; decide
    unfold sbF
    rw [stbs_find hi]
    simp only [e2]
    show (([_] : List Lk).flatMap (stF (1 + (i : Int)))) = _
    rw [List.flatMap_singleton]
    unfold stF
    simp only
    have hb := hg i hi
    rw [mask_bits hb.1 hb.2, show (eqB (3 : Int) 3 && leB 0 (g i)) = true by rw [eqB_eq, leB_eq, decide_eq_true hb.1]; rfl]
  show x ∈ (vertsL (stbs f g n)).flatMap (sbF (stbs f g n)) ↔ _
  rw [List.mem_flatMap]
  constructor
  · rintro ⟨v, hv, hx⟩
    obtain ⟨i, hi, rfl⟩ := stbs_v.1 hv
    rw [key i hi, List.mem_singleton] at hx
    exact ⟨i, hi, hx⟩
  · rintro ⟨i, hi, rfl⟩
    exact ⟨_, stbs_v.2 ⟨i, hi, rfl⟩, by rw [key i hi]; exact List.mem_singleton.2 rfl⟩
end
theorem net_nat {a b : Int} (h0 : 0 ≤ a) (h1 : a ≤ 4294967295) : ∃ m : Nat, maskF b = (m : Int) ∧ m ≤ 4294967295 ∧ netF a b = ((a.toNat &&& m : Nat) : Int) := by
  obtain ⟨g1, g2⟩ := mask_b b
  refine ⟨(maskF b).toNat, by omega, by omega, ?_⟩
  rw [net_same b h0 h1]
  have := and_i64 a.toNat (maskF b).toNat (by omega) (by omega)
  rw [show ((a.toNat : Nat) : Int) = a by omega, show (((maskF b).toNat : Nat) : Int) = maskF b by omega] at this
  unfold pnetF
  exact this
theorem net_net {p b : Int} (h0 : 0 ≤ p) (h1 : p ≤ 4294967295) : 0 ≤ netF p b ∧ netF p b ≤ 4294967295 ∧ netF (netF p b) b = netF p b := by
  obtain ⟨m, hm, hm1, hp⟩ := net_nat (b := b) h0 h1
  have hle : p.toNat &&& m ≤ m := Nat.and_le_right
  have r0 : 0 ≤ netF p b := by omega
  have r1 : netF p b ≤ 4294967295 := by omega
  refine ⟨r0, r1, ?_⟩
  obtain ⟨m', hm', _, hp'⟩ := net_nat (b := b) r0 r1
  have : m' = m := by omega
  subst this
  rw [hp', hp, Int.toNat_natCast, Nat.and_assoc, Nat.and_self]
theorem okA_of {a : Int} (h : 0 ≤ a) (h' : a ≤ 4294967295) : okA a = true := by
  unfold okA; rw [leB_eq, leB_eq, decide_eq_true h, decide_eq_true h']; rfl
theorem in_net {a p b : Int} (h0 : 0 ≤ p) (h1 : p ≤ 4294967295) : inP a (netF p b) b = inR a p b := by
  obtain ⟨r0, r1, r2⟩ := net_net (b := b) h0 h1
  rw [← in_same]
  unfold inR
  rw [okA_of h0 h1, okA_of r0 r1, r2]
theorem in_eq {a p b : Int} (h : inR a p b = true) : netF a b = netF p b := by
  unfold inR at h
  rw [Bool.and_eq_true, Bool.and_eq_true, Bool.and_eq_true, Bool.and_eq_true, eqB_eq] at h
  exact of_decide_eq_true h.2.2.2.2
/-- What is found among some stubs. -/
structure Near (a : Int) (L : List Sb) (s : Src) : Prop where
  no : s.ok = false → ∀ x ∈ L, inP a x.p x.b = false
  is : s.ok = true → ∃ x ∈ L, inP a x.p x.b = true ∧ s = ⟨⟨1, x.r⟩, x.p, x.b, true⟩ ∧ ∀ y ∈ L, inP a y.p y.b = true → y.b ≤ s.b
theorem near_fold (a : Int) : ∀ (L M : List Sb) (s : Src), Near a M s → Near a (M ++ L) (L.foldl (sb1 a) s)
  | [], M, s, h => by rw [List.append_nil]; exact h
  | x :: L, M, s, h => by
    have e : M ++ x :: L = (M ++ [x]) ++ L := by simp
    rw [e, List.foldl_cons]
    refine near_fold a L (M ++ [x]) _ ?_
    unfold sb1
    by_cases hc : inP a x.p x.b = true ∧ (s.ok = false ∨ s.b < x.b)
    · rw [if_pos hc]
      refine ⟨fun h => (nomatch h), fun _ => ⟨x, by simp, hc.1, rfl, fun y hy hyi => ?_⟩⟩
      show y.b ≤ x.b
      rcases List.mem_append.1 hy with hy | hy
      · rcases hc.2 with h2 | h2
        · rw [h.no h2 y hy] at hyi; cases hyi
        · cases hok : s.ok with
          | false => rw [h.no hok y hy] at hyi; cases hyi
          | true =>
            obtain ⟨z, _, _, _, hz⟩ := h.is hok
            have := hz y hy hyi
            omega
      · rw [List.mem_singleton.1 hy]; omega
    · rw [if_neg hc]
      refine ⟨fun hok y hy => ?_, fun hok => ?_⟩
      · rcases List.mem_append.1 hy with hy | hy
        · exact h.no hok y hy
        · rw [List.mem_singleton.1 hy]
          cases hi : inP a x.p x.b with
          | false => rfl
          | true => exact absurd ⟨hi, .inl hok⟩ hc
      · obtain ⟨z, hz, hzi, hs, hm⟩ := h.is hok
        refine ⟨z, List.mem_append_left _ hz, hzi, hs, fun y hy hyi => ?_⟩
        rcases List.mem_append.1 hy with hy | hy
        · exact hm y hy hyi
        · rw [List.mem_singleton.1 hy] at hyi ⊢
          by_cases hl : s.b < x.b
          · exact absurd ⟨hyi, .inr hl⟩ hc
          · omega
theorem near_src (a : Int) (m : Mp) (hs : m.sn = []) : Near a m.sb (srcF a m) := by
  unfold srcF
  rw [hs]
  exact near_fold a m.sb [] z0 ⟨fun _ x hx => (nomatch hx), fun h => (nomatch h)⟩
/-- The most bits of those that an address is in. -/
def mostF (a : Int) (f g : Nat → Int) : Nat → Int
  | 0 => -1
  | i + 1 => match inR a (f i) (g i) with
    | true => mm true (mostF a f g i) (g i)
    | false => mostF a f g i
theorem mostF_ge (a : Int) (f g : Nat → Int) : ∀ n, -1 ≤ mostF a f g n
  | 0 => by unfold mostF; omega
  | n + 1 => by
    have := mostF_ge a f g n
    unfold mostF
    split
    · unfold mm; simp only; split <;> omega
    · exact this
theorem mostF_all {a : Int} {f g : Nat → Int} : ∀ {n i : Nat}, i < n → inR a (f i) (g i) = true → g i ≤ mostF a f g n
  | n + 1, i, hi, h => by
    unfold mostF
    rcases Nat.lt_succ_iff_lt_or_eq.1 hi with hi | rfl
    · have := mostF_all hi h
      split
      · unfold mm; simp only; split <;> omega
      · exact this
    · rw [h]
      unfold mm; simp only; split <;> omega
theorem mostF_is {a : Int} {f g : Nat → Int} : ∀ {n : Nat}, 0 ≤ mostF a f g n → ∃ i, i < n ∧ inR a (f i) (g i) = true ∧ g i = mostF a f g n
  | 0, h => by unfold mostF at h; omega
  | n + 1, h => by
    unfold mostF at h ⊢
    cases hb : inR a (f n) (g n) with
    | false =>
      rw [hb] at h
      obtain ⟨i, hi, h1, h2⟩ := mostF_is (n := n) h
      exact ⟨i, by omega, h1, h2⟩
    | true =>
      rw [hb] at h
      unfold mm at h ⊢
      simp only at h ⊢
      by_cases hl : mostF a f g n < g n
      · rw [if_pos hl] at h ⊢
        exact ⟨n, by omega, hb, rfl⟩
      · rw [if_neg hl] at h ⊢
        obtain ⟨i, hi, h1, h2⟩ := mostF_is (n := n) h
        exact ⟨i, by omega, h1, h2⟩
section
variable {a : Int} {f g : Nat → Int} {n : Nat}
theorem cast_none (hf : ∀ i, i < n → 0 ≤ f i ∧ f i ≤ 4294967295) (hg : ∀ i, i < n → 0 ≤ g i ∧ g i ≤ 32) (hm : mostF a f g n < 0) : (srcF a (mapL (stbs f g n))).ok = false := by
  cases hok : (srcF a (mapL (stbs f g n))).ok with
  | false => rfl
  | true =>
    obtain ⟨x, hx, hi, _, _⟩ := (near_src a _ stbs_sn).is hok
    obtain ⟨i, hi', rfl⟩ := (stbs_sb hg).1 hx
    rw [in_net (hf i hi').1 (hf i hi').2] at hi
    have := mostF_all hi' hi
    have := (hg i hi').1
    omega
theorem cast_some (hf : ∀ i, i < n → 0 ≤ f i ∧ f i ≤ 4294967295) (hg : ∀ i, i < n → 0 ≤ g i ∧ g i ≤ 32) (hm : 0 ≤ mostF a f g n) : ∃ v : Vt, srcF a (mapL (stbs f g n)) = ⟨v, netF a (mostF a f g n), mostF a f g n, true⟩ ∧ v.k = 1 ∧ v ∈ (mapL (stbs f g n)).vs := by
  have hn := near_src a (mapL (stbs f g n)) stbs_sn
  obtain ⟨i, hi, h1, h2⟩ := mostF_is hm
  have hin : inP a (netF (f i) (g i)) (g i) = true := by rw [in_net (hf i hi).1 (hf i hi).2]; exact h1
  have hmem : (⟨1 + (i : Int), netF (f i) (g i), g i, 1⟩ : Sb) ∈ (mapL (stbs f g n)).sb := (stbs_sb hg).2 ⟨i, hi, rfl⟩
  cases hok : (srcF a (mapL (stbs f g n))).ok with
  | false => have := hn.no hok _ hmem; rw [hin] at this; cases this
  | true =>
    obtain ⟨x, hx, hxi, hs, hall⟩ := hn.is hok
    have hle := hall _ hmem hin
    obtain ⟨j, hj, rfl⟩ := (stbs_sb hg).1 hx
    rw [hs] at hle
    have hle : g i ≤ g j := hle
    rw [in_net (hf j hj).1 (hf j hj).2] at hxi
    have hge := mostF_all hj hxi
    have he : g j = mostF a f g n := by omega
    refine ⟨⟨1, 1 + (j : Int)⟩, ?_, rfl, stbs_v.2 ⟨j, hj, rfl⟩⟩
    rw [hs]
    show (⟨⟨1, 1 + (j : Int)⟩, netF (f j) (g j), g j, true⟩ : Src) = _
    rw [← in_eq hxi, he]
theorem cast_tree {v : Vt} (hv : v ∈ (mapL (stbs f g n)).vs) : refTree (mapL (stbs f g n)) v = [rootN v] := by
  unfold refTree
  rw [List.any_eq_true.2 ⟨v, hv, decide_eq_true rfl⟩, stbs_es]
  show treeN soon [] _ _ = _
  cases (mapL (stbs f g n)).vs.length with
  | zero => rfl
  | succ k => exact treeN_none rfl
end
end Go.Proofs.Ytmocggibcniggaa.Kt
namespace Go.Proofs.Ytmocggibcniggaa.Kt
open Go Kw Go.Proofs
attribute [local irreducible] Kw.GI Kw.GR Kw.FnR Kw.FnX Kw.FnI
set_option maxHeartbeats 16000000
set_option maxRecDepth 100000
/-! ### what Find finds -/
theorem fnd_none {l : List Rt} {a : Int} : ∀ {i : Nat}, fndN l a i = none → ∀ (j : Nat) y, j < i → l[j]? = some y → inP a y.p y.b = false
  | i + 1, h, j, y, hj, hy => by
    unfold fndN at h
    cases hx : l[i]? with
    | none =>
      rw [hx] at h
      rcases Nat.lt_succ_iff_lt_or_eq.1 hj with hj | rfl
      · exact fnd_none h j y hj hy
      · rw [hx] at hy; cases hy
    | some x =>
      rw [hx] at h
      unfold fd1 at h
      simp only at h
      cases hi : inP a x.p x.b with
      | true =>
        rw [hi] at h
        simp only at h
        split at h
        · cases h
        · split at h <;> cases h
      | false =>
        rw [hi] at h
        rcases Nat.lt_succ_iff_lt_or_eq.1 hj with hj | rfl
        · exact fnd_none h j y hj hy
        · rw [hx] at hy; cases hy; exact hi
theorem fnd_some {l : List Rt} {a : Int} : ∀ {i k : Nat} {x : Rt}, fndN l a i = some (k, x) → inP a x.p x.b = true ∧ ∀ (j : Nat) y, j < i → l[j]? = some y → inP a y.p y.b = true → y.b ≤ x.b
  | 0, k, x, h => by cases h
  | i + 1, k, x, h => by
    unfold fndN at h
    cases hz : l[i]? with
    | none =>
      rw [hz] at h
      obtain ⟨h1, h2⟩ := fnd_some (i := i) h
      refine ⟨h1, fun j y hj hy hi => ?_⟩
      rcases Nat.lt_succ_iff_lt_or_eq.1 hj with hj | rfl
      · exact h2 j y hj hy hi
      · rw [hz] at hy; cases hy
    | some z =>
      rw [hz] at h
      unfold fd1 at h
      simp only at h
      cases hi : inP a z.p z.b with
      | true =>
        rw [hi] at h
        simp only at h
        split at h
        · rename_i hn
          cases h
          refine ⟨hi, fun j y hj hy hyi => ?_⟩
          rcases Nat.lt_succ_iff_lt_or_eq.1 hj with hj | rfl
          · rw [fnd_none hn j y hj hy] at hyi; cases hyi
          · rw [hz] at hy; cases hy; exact Int.le_refl _
        · rename_i q m r hq
          obtain ⟨h1, h2⟩ := fnd_some (i := i) hq
          split at h
          · rename_i hlt
            rw [ltB_eq] at hlt
            have hlt := of_decide_eq_true hlt
            cases h
            refine ⟨hi, fun j y hj hy hyi => ?_⟩
            rcases Nat.lt_succ_iff_lt_or_eq.1 hj with hj | rfl
            · have := h2 j y hj hy hyi; omega
            · rw [hz] at hy; cases hy; exact Int.le_refl _
          · rename_i hlt
            rw [ltB_eq] at hlt
            have hlt := of_decide_eq_false hlt
            cases h
            refine ⟨h1, fun j y hj hy hyi => ?_⟩
            rcases Nat.lt_succ_iff_lt_or_eq.1 hj with hj | rfl
            · exact h2 j y hj hy hyi
            · rw [hz] at hy; cases hy; omega
      | false =>
        rw [hi] at h
        obtain ⟨h1, h2⟩ := fnd_some (i := i) h
        refine ⟨h1, fun j y hj hy hyi => ?_⟩
        rcases Nat.lt_succ_iff_lt_or_eq.1 hj with hj | rfl
        · exact h2 j y hj hy hyi
        · rw [hz] at hy; cases hy; rw [hi] at hyi; cases hyi
theorem find_spec (l : List Rt) (a : Int) : ((findF l a).2 = false ∧ ∀ (j : Nat) y, l[j]? = some y → inP a y.p y.b = false) ∨ ((findF l a).2 = true ∧ inP a (findF l a).1.p (findF l a).1.b = true ∧ (∃ j : Nat, l[j]? = some (findF l a).1) ∧ ∀ (j : Nat) y, l[j]? = some y → inP a y.p y.b = true → y.b ≤ (findF l a).1.b) := by
  unfold findF
  cases h : fndN l a l.length with
  | none => exact .inl ⟨rfl, fun j y hy => fnd_none h j y (List.getElem?_eq_some_iff.1 hy).1 hy⟩
  | some q =>
    obtain ⟨k, x⟩ := q
    obtain ⟨h1, h2⟩ := fnd_some h
    exact .inr ⟨rfl, h1, ⟨k, (fnd_at h).1⟩, fun j y hy => h2 j y (List.getElem?_eq_some_iff.1 hy).1 hy⟩
/-- The list that the statement builds. -/
def fdX (f g : Nat → Int) (i : Nat) : Rt := ⟨netF (f i) (g i), g i, (i : Int), 0, 0⟩
def fdL (f g : Nat → Int) (n : Nat) : List Rt := (List.range n).map (fdX f g)
theorem fdL_snoc (f g : Nat → Int) (n : Nat) : fdL f g (n + 1) = fdL f g n ++ [fdX f g n] := by
  unfold fdL
  rw [List.range_succ, List.map_append]
  rfl
theorem fdL_get {f g : Nat → Int} {n i : Nat} (h : i < n) : (fdL f g n)[i]? = some (fdX f g i) := by
  unfold fdL
  rw [List.getElem?_map, List.getElem?_range h]
  rfl
theorem fdL_at {f g : Nat → Int} {n i : Nat} {x : Rt} (h : (fdL f g n)[i]? = some x) : i < n ∧ x = fdX f g i := by
  have hl := (List.getElem?_eq_some_iff.1 h).1
  have : i < n := by simpa [fdL] using hl
  rw [fdL_get this] at h
  cases h
  exact ⟨this, rfl⟩
theorem fdL_len (f g : Nat → Int) (n : Nat) : (fdL f g n).length = n := by simp [fdL]
section
variable {a : Int} {f g : Nat → Int} {n : Nat}
/-- The most bits, as the statement counts them. -/
abbrev mostX (a : Int) (f g : Nat → Int) (n : Nat) : Int := mostF a (fun i => netF (f i) (g i)) g n
theorem find_most (hg : ∀ i, i < n → 0 ≤ g i ∧ g i ≤ 32) : (mostX a f g n < 0 → (findF (fdL f g n) a).2 = false) ∧ (0 ≤ mostX a f g n → (findF (fdL f g n) a).2 = true ∧ (findF (fdL f g n) a).1.b = mostX a f g n ∧ inP a (findF (fdL f g n) a).1.p (findF (fdL f g n) a).1.b = true) := by
  refine ⟨fun h => ?_, fun h => ?_⟩
  · rcases find_spec (fdL f g n) a with ⟨h1, _⟩ | ⟨_, h2, ⟨j, hj⟩, _⟩
    · exact h1
    · obtain ⟨hjn, hx⟩ := fdL_at hj
      rw [hx] at h2
      have h2 : inP a (netF (f j) (g j)) (g j) = true := h2
      rw [← in_same] at h2
      have h3 : g j ≤ mostX a f g n := mostF_all (f := fun i => netF (f i) (g i)) (g := g) hjn h2
      have := (hg j hjn).1
      omega
  · obtain ⟨i, hi, h1, h2⟩ := mostF_is h
    rw [in_same] at h1
    rcases find_spec (fdL f g n) a with ⟨_, h3⟩ | ⟨h3, h4, ⟨j, hj⟩, h5⟩
    · have : inP a (netF (f i) (g i)) (g i) = false := h3 i _ (fdL_get hi)
      rw [h1] at this; cases this
    · refine ⟨h3, ?_, h4⟩
      have h6 : g i ≤ (findF (fdL f g n) a).1.b := h5 i _ (fdL_get hi) h1
      obtain ⟨hjn, hx⟩ := fdL_at hj
      rw [hx] at h4 h6 ⊢
      have h4 : inP a (netF (f j) (g j)) (g j) = true := h4
      have h6 : g i ≤ g j := h6
      rw [← in_same] at h4
      have h7 : g j ≤ mostX a f g n := mostF_all (f := fun i => netF (f i) (g i)) (g := g) hjn h4
      have h2 : g i = mostX a f g n := h2
      show g j = mostX a f g n
      omega
theorem find_own (hf : ∀ i, i < n → 0 ≤ f i ∧ f i ≤ 4294967295) (hg : ∀ i, i < n → 0 ≤ g i ∧ g i ≤ 32) {i : Nat} (hi : i < n) : (findF (fdL f g n) (netF (f i) (g i))).2 = true ∧ g i ≤ (findF (fdL f g n) (netF (f i) (g i))).1.b := by
  have hin : inP (netF (f i) (g i)) (netF (f i) (g i)) (g i) = true := by
    obtain ⟨r0, r1, r2⟩ := net_net (b := g i) (hf i hi).1 (hf i hi).2
    unfold inP
    rw [okA_of r0 r1, leB_eq, leB_eq, eqB_eq, decide_eq_true (hg i hi).1, decide_eq_true (hg i hi).2]
    simp
  rcases find_spec (fdL f g n) (netF (f i) (g i)) with ⟨_, h3⟩ | ⟨h3, _, _, h5⟩
  · have : inP (netF (f i) (g i)) (netF (f i) (g i)) (g i) = false := h3 i _ (fdL_get hi)
    rw [hin] at this; cases this
  · exact ⟨h3, h5 i _ (fdL_get hi) hin⟩
end
end Go.Proofs.Ytmocggibcniggaa.Kt
namespace Go.Proofs.Ytmocggibcniggaa.Kt
open Go Kw Go.Proofs
attribute [local irreducible] Kw.GI Kw.GR Kw.FnR Kw.FnX Kw.FnI
set_option maxHeartbeats 16000000
set_option maxRecDepth 100000
abbrev w32 (n : Int) : AV := .r (.v (.int .u32 n))
abbrev rw32 (l : List Int) : AV := .r (.rs 1 (l.map fun n => [.v (.int .u32 n)]))
def fP (ps : List Int) (i : Nat) : Int := ps.getD i 0
def gP (qs : List Int) (i : Nat) : Int := rm (qs.getD i 0) 33
theorem RouteFinds_ok (ps qs : List Int) (a : Int) (hps : ∀ p ∈ ps, 0 ≤ p ∧ p ≤ 4294967295) (hqs : ∀ p ∈ qs, 0 ≤ p ∧ p ≤ 255) (ha : 0 ≤ a ∧ a ≤ 4294967295) : FnR Try.prog 9 [rw32 ps, rs8 qs, w32 a] (RB true) := by
  refine fnR_intro (T := TT) (n := 138) Try.func9 rfl rfl rfl (fun w Z => ?_)
  (repeat (first | refine r_end ?_ | (refine r_op ?_; refine r_pure hT rfl rfl rfl rfl rfl rfl ?_) | refine gi_seq ?_ | refine gi_plain ?_))
  refine r_case (d := 20) rfl (fun c1 => ?_) (fun c1 => ?_)
  · (repeat (first | refine r_end ?_ | (refine r_op ?_; first | refine r_pure hT rfl rfl rfl rfl rfl rfl ?_ | refine r_off rfl rfl rfl rfl rfl ?_) | refine gi_seq ?_ | refine gi_plain ?_ | (refine gi_cnd ?_; first | refine gi_true rfl ?_ | refine gi_false rfl ?_)))
    refine r_call (awake19_ok) rfl rfl rfl rfl rfl rfl rfl rfl Try.func32 rfl rfl rfl pB ?_
    rintro r S1 ⟨rfl, rfl⟩
    (repeat (first | refine r_end ?_ | (refine r_op ?_; refine r_pure hT rfl rfl rfl rfl rfl rfl ?_)))
    refine gi_retW hT Try.func9 rfl rfl [] rfl rfl rfl rfl ?_
    exact ⟨rfl, rfl⟩
  rw [ltB_eq, List.length_map] at c1
  have c1 := of_decide_eq_false c1
  (repeat (first | refine r_end ?_ | (refine r_op ?_; refine r_pure hT rfl rfl rfl rfl rfl rfl ?_)))
  refine gi_lt rfl (fun c2 => ?_) (fun c2 => ?_)
  · (repeat (first | refine gi_seq ?_ | refine gi_plain ?_))
    refine r_call (awake19_ok) rfl rfl rfl rfl rfl rfl rfl rfl Try.func32 rfl rfl rfl pB ?_
    rintro r S1 ⟨rfl, rfl⟩
    (repeat (first | refine r_end ?_ | (refine r_op ?_; refine r_pure hT rfl rfl rfl rfl rfl rfl ?_)))
    refine gi_retW hT Try.func9 rfl rfl [] rfl rfl rfl rfl ?_
    exact ⟨rfl, rfl⟩
  rw [List.length_map, List.length_map] at c2
  obtain ⟨n, hn⟩ : ∃ n, n = ps.length := ⟨_, rfl⟩
  have hn20 : n ≤ 20 := by omega
  have hpi : ∀ i, i < n → ∃ p, ps[i]? = some p ∧ fP ps i = p ∧ 0 ≤ p ∧ p ≤ 4294967295 := fun i hi => by
    obtain ⟨p, hp⟩ : ∃ p, ps[i]? = some p := ⟨_, List.getElem?_eq_getElem (by omega)⟩
    exact ⟨p, hp, by unfold fP; rw [List.getD_eq_getElem?_getD, hp]; rfl, hps p (List.mem_of_getElem? hp)⟩
  have hqi : ∀ i, i < n → ∃ q, qs[i]? = some q ∧ rm q 33 = gP qs i ∧ 0 ≤ q ∧ q ≤ 255 := fun i hi => by
    obtain ⟨q, hq⟩ : ∃ q, qs[i]? = some q := ⟨_, List.getElem?_eq_getElem (by omega)⟩
    exact ⟨q, hq, by unfold gP; rw [List.getD_eq_getElem?_getD, hq]; rfl, hqs q (List.mem_of_getElem? hq)⟩
  have hf : ∀ i, i < n → 0 ≤ fP ps i ∧ fP ps i ≤ 4294967295 := fun i hi => by
    obtain ⟨p, _, e, h⟩ := hpi i hi
    rw [e]; exact h
  have hg : ∀ i, i < n → 0 ≤ gP qs i ∧ gP qs i ≤ 32 := fun i hi => by
    obtain ⟨q, _, e, h⟩ := hqi i hi
    rw [← e, rm_pos h.1]; omega
  (repeat (first | refine r_end ?_ | (refine r_op ?_; refine r_pure hT rfl rfl rfl rfl rfl rfl ?_) | refine gi_seq ?_ | refine gi_plain ?_ | refine gi_skip ?_ | refine gi_block ?_))
  refine gi_adopt (e := 67) (sz := 5) 7 rfl ?_
  refine gi_loop (σ := Nat) (fun j => [(8, I (j : Int)), (7, .sl 0), (0, rw32 ps), (1, rs8 qs), (2, w32 a)]) (fun _ => []) (fun j => [eRt (fdL (fP ps) (gP qs) j)]) (fun j => j ≤ n) (fun j => n - j) 0 (Nat.zero_le _) ⟨rfl, rfl, rfl, rfl, rfl, trivial⟩ trivial ⟨rfl, trivial⟩ (fun _ => rfl) (fun j hj next => ?_)
  have hj : j ≤ n := hj
  (repeat (first | refine r_end ?_ | (refine r_op ?_; refine r_pure hT rfl rfl rfl rfl rfl rfl ?_) | refine gi_seq ?_ | refine gi_plain ?_))
  refine gi_lt (p := (j : Int)) (q := ((ps.map fun n => [RV.v (.int .u32 n)]).length : Int)) rfl (fun h3 => ?_) (fun h3 => ?_)
  · rw [List.length_map] at h3
    have hjn : j < n := by omega
    obtain ⟨p, hp, ep, hpb⟩ := hpi j hjn
    obtain ⟨q, hq, eq, hqb⟩ := hqi j hjn
    have hsn := fdL_snoc (fP ps) (gP qs) j
    have hll := fdL_len (fP ps) (gP qs) j
    obtain ⟨l0, hl0⟩ : ∃ l0, l0 = fdL (fP ps) (gP qs) j := ⟨_, rfl⟩
    rw [← hl0] at hsn hll
    rw [← hl0]
    (repeat (first | (refine r_op ?_; refine r_pure hT rfl rfl rfl rfl rfl rfl ?_) | refine gi_seq ?_ | refine gi_plain ?_ | refine gi_skip ?_ | refine gi_block ?_))
    refine r_idx (row := [.v (.int .u8 q)]) hT rfl rfl rfl rfl rfl rfl rfl rfl rfl rfl rfl rfl (nn j) (by simp [hq]) ?_
    (repeat (first | refine r_end ?_ | (refine r_op ?_; first | refine r_pure hT rfl rfl rfl rfl rfl rfl ?_ | refine r_load hT rfl rfl rfl rfl rfl rfl rfl rfl rfl ?_)))
    refine gi_turn (d := 9) (y := I (gP qs j)) rfl (by rw [wr_i64 (n := q) (by omega) (by omega), eq]) ?_
    (repeat (first | (refine r_op ?_; refine r_pure hT rfl rfl rfl rfl rfl rfl ?_) | refine gi_plain ?_))
    refine r_idx (row := [.v (.int .u32 p)]) hT rfl rfl rfl rfl rfl rfl rfl rfl rfl rfl rfl rfl (nn j) (by simp [hp]) ?_
    (repeat ((refine r_op ?_; first | refine r_pure hT rfl rfl rfl rfl rfl rfl ?_ | refine r_load hT rfl rfl rfl rfl rfl rfl rfl rfl rfl ?_)))
    refine r_turn (d := 45) (y := I (fP ps j)) rfl (by rw [wr_i64 (n := p) (by omega) (by omega), ep]) ?_
    refine r_call (Net_ok (fP ps j) (gP qs j)) rfl rfl rfl rfl rfl rfl rfl rfl Try.func27 rfl rfl rfl pI ?_
    rintro r S1 ⟨rfl, rfl⟩
    (repeat ((refine r_op ?_; first | refine r_pure hT rfl rfl rfl rfl rfl rfl ?_ | refine r_lit hT rfl rfl rfl rfl rfl rfl rfl rfl rfl rfl rfl rfl rfl ?_)))
    refine r_append hT rfl rfl rfl rfl rfl rfl rfl rfl rfl rfl rfl rfl rfl rfl rfl rfl rfl ?_ ?_
    · simp only [List.length_cons, List.length_nil, List.length_map, maxLen]
      constructor
      · omega
      · show _ * 40 ≤ _
        omega
    (repeat (first | refine r_end ?_ | (refine r_op ?_; refine r_pure hT rfl rfl rfl rfl rfl rfl ?_) | refine gi_plain ?_ | refine gi_inBlock ?_))
    refine gi_pick [] [0] rfl rfl rfl rfl rfl ?_
    refine next (j + 1) _ _ _ (by omega) (by omega) ⟨?_, rfl, rfl, rfl, rfl, trivial⟩ trivial ⟨?_, trivial⟩
    · show some (I (wr .i64 ((j : Int) + 1))) = _
      rw [wadd1 (by omega)]
    · rw [hsn]
      exact eRt_ap l0 [_]
  rw [List.length_map] at h3
  have hjn : j = n := by omega
  subst hjn
  clear next
  have hmost := fun i => mostF a (fun i => netF (fP ps i) (gP qs i)) (gP qs) i
  obtain ⟨hm1, hm2⟩ := find_most (a := a) (f := fP ps) (g := gP qs) (n := j) hg
  have hown := fun i hi => find_own (f := fP ps) (g := gP qs) (n := j) hf hg (i := i) hi
  have hget := fun i hi => fdL_get (f := fP ps) (g := gP qs) (n := j) (i := i) hi
  have hll := fdL_len (fP ps) (gP qs) j
  obtain ⟨l, hl⟩ : ∃ l, l = fdL (fP ps) (gP qs) j := ⟨_, rfl⟩
  rw [← hl] at hm1 hm2 hown hget hll
  rw [← hl]
  refine gi_freeze 0 (L' := l.map Rt.row) rfl rfl ?_
  refine gi_thaw 7 rfl ?_
  refine gi_weak (F' := [(7, rsRt l), (2, w32 a)]) (H' := []) (S' := []) ⟨rfl, rfl, trivial⟩ trivial trivial rfl ?_
  (repeat (first | (refine r_op ?_; refine r_pure hT rfl rfl rfl rfl rfl rfl ?_) | refine gi_seq ?_ | refine gi_plain ?_ | refine gi_exit rfl ?_))
  refine r_turn (d := 56) (y := I a) rfl (by rw [wr_i64 (by omega) (by omega)]) ?_
  refine r_call (pFind_ok l a (by omega)) rfl rfl rfl rfl rfl rfl rfl rfl Try.func33 rfl rfl rfl pFdR ?_
  rintro r S1 ⟨rfl, rfl⟩
  generalize findF l a = fx at hm1 hm2
  obtain ⟨x, ok⟩ := fx
  simp only at hm1 hm2
  (repeat (first | refine r_end ?_ | (refine r_op ?_; first | refine r_pure hT rfl rfl rfl rfl rfl rfl ?_ | refine r_store hT rfl rfl rfl rfl rfl rfl rfl rfl rfl rfl ?_ | refine r_alloc hT rfl rfl rfl rfl rfl rfl rfl rfl rfl ?_) | refine gi_seq ?_ | refine gi_plain ?_ | refine gi_block ?_))
  refine gi_loop (σ := Nat) (fun i => [(13, I (i : Int)), (12, I (mostX a (fP ps) (gP qs) i)), (11, Bo ok), (10, .box 0 0), (7, rsRt l), (2, w32 a)]) (fun _ => [hRt x]) (fun _ => []) (fun i => i ≤ j) (fun i => j - i) 0 (Nat.zero_le _) ⟨rfl, rfl, rfl, rfl, rfl, rfl, trivial⟩ ⟨rfl, trivial⟩ trivial (fun _ => rfl) (fun i hi next => ?_)
  have hi : i ≤ j := hi
  (repeat (first | refine r_end ?_ | (refine r_op ?_; refine r_pure hT rfl rfl rfl rfl rfl rfl ?_) | refine gi_seq ?_ | refine gi_plain ?_))
  refine gi_lt (p := (i : Int)) (q := ((l.map Rt.row).length : Int)) rfl (fun h4 => ?_) (fun h4 => ?_)
  · rw [List.length_map] at h4
    have hij : i < j := by omega
    have hx := hget i hij
    have hms : mostX a (fP ps) (gP qs) (i + 1) = match inR a (netF (fP ps i) (gP qs i)) (gP qs i) with
      | true => mm true (mostX a (fP ps) (gP qs) i) (gP qs i)
      | false => mostX a (fP ps) (gP qs) i := rfl
    have on : ∀ M, mostX a (fP ps) (gP qs) (i + 1) = M → ∀ F1 H1 S1, SubF [(13, I (wr .i64 ((i : Int) + 1))), (12, I M), (11, Bo ok), (10, .box 0 0), (7, rsRt l), (2, w32 a)] F1 → SubH [hRt x] H1 → SubS [] S1 → GI _ _ F1 H1 S1 := fun M hM F1 H1 S1 hF hH hS => by
      refine next (i + 1) F1 H1 S1 (by omega) (by omega) ?_ hH hS
      rw [wadd1 (by omega)] at hF
      rw [hM]
      exact hF
    clear next
    (repeat (first | refine gi_seq ?_ | refine gi_skip ?_ | refine gi_block ?_))
    refine gi_drawM [] [(0, .p), (1, .p), (2, .p), (3, .p), (4, .p), (5, .p), (7, .p), (8, .p), (9, .p), (10, .p), (6, .t), (11, .t), (12, .o)] [0, 1, 0, 0, 12, 16, 32, 0, 0, 384, 512, 1024, 2114] [0, 1, 0, 0, 12, 16, 32, 0, 0, 384, 512, 1024, 2114] Kt.hm rfl (by kernel_rfl) (fun w1 K => ?_)
    (repeat ((refine r_op ?_; refine r_pure hT rfl rfl rfl rfl rfl rfl ?_)))
    refine r_idx (row := (fdX (fP ps) (gP qs) i).row) hT rfl rfl rfl rfl rfl rfl rfl rfl rfl rfl rfl rfl (nn i) (by simp [hx]) ?_
    (repeat ((refine r_op ?_; refine r_pure hT rfl rfl rfl rfl rfl rfl ?_)))
    refine r_idx (row := (fdX (fP ps) (gP qs) i).row) hT rfl rfl rfl rfl rfl rfl rfl rfl rfl rfl rfl rfl (nn i) (by simp [hx]) ?_
    (repeat ((refine r_op ?_; first | refine r_pure hT rfl rfl rfl rfl rfl rfl ?_ | refine r_load hT rfl rfl rfl rfl rfl rfl rfl rfl rfl ?_)))
    refine r_turn (d := 67) (y := I a) rfl (by rw [wr_i64 (by omega) (by omega)]) ?_
    refine r_call (rIn_ok a (netF (fP ps i) (gP qs i)) (gP qs i)) rfl rfl rfl rfl rfl rfl rfl rfl Try.func26 rfl rfl rfl pB ?_
    rintro r S1 ⟨rfl, rfl⟩
    (repeat (refine r_end ?_))
    refine gi_cond rfl (fun c4 => ?_) (fun c4 => ?_)
    · rw [c4] at hms
      (repeat (first | (refine r_op ?_; refine r_pure hT rfl rfl rfl rfl rfl rfl ?_) | refine gi_plain ?_))
      refine r_idx (row := (fdX (fP ps) (gP qs) i).row) hT rfl rfl rfl rfl rfl rfl rfl rfl rfl rfl rfl rfl (nn i) (by simp [hx]) ?_
      (repeat (first | refine r_end ?_ | (refine r_op ?_; first | refine r_pure hT rfl rfl rfl rfl rfl rfl ?_ | refine r_load hT rfl rfl rfl rfl rfl rfl rfl rfl rfl ?_) | refine gi_plain ?_ | refine gi_inBlock ?_))
      exact on _ hms _ _ _ ⟨rfl, rfl, rfl, rfl, rfl, rfl, trivial⟩ ⟨rfl, trivial⟩ trivial
    · rw [c4] at hms
      (repeat (first | refine r_end ?_ | (refine r_op ?_; refine r_pure hT rfl rfl rfl rfl rfl rfl ?_) | refine gi_plain ?_ | refine gi_skip ?_ | refine gi_inBlock ?_))
      exact on _ hms _ _ _ ⟨rfl, rfl, rfl, rfl, rfl, rfl, trivial⟩ ⟨rfl, trivial⟩ trivial
  rw [List.length_map] at h4
  have hij : i = j := by omega
  subst hij
  clear next
  generalize mostX a (fP ps) (gP qs) i = M at hm1 hm2
  have hb : beqB ok (leB 0 M) = true := by
    rw [beqB_eq, leB_eq]
    by_cases h0 : 0 ≤ M
    · rw [(hm2 h0).1, decide_eq_true h0]; rfl
    · rw [hm1 (by omega), decide_eq_false h0]; rfl
  apply gi_cut (σ := Unit) (fun _ => [(7, rsRt l)]) (fun _ => []) (fun _ => []) (fun _ => True) (fun _ => rfl)
  case first =>
    intro fin
    (repeat (first | (refine r_op ?_; refine r_pure hT rfl rfl rfl rfl rfl rfl ?_) | refine gi_seq ?_ | refine gi_plain ?_ | refine gi_exit rfl ?_))
    refine r_known (d := 90) (b := false) rfl (by rw [hb, notB_eq]; rfl) ?_
    (repeat ((refine r_op ?_; refine r_pure hT rfl rfl rfl rfl rfl rfl ?_)))
    refine r_case (d := 92) rfl (fun c5 => ?_) (fun c5 => ?_)
    · have h0 : 0 ≤ M := by
        rcases Int.lt_or_le M 0 with h | h
        · rw [hm1 h] at c5; cases c5
        · exact h
      obtain ⟨_, e1, e2⟩ := hm2 h0
      (repeat ((refine r_op ?_; first | refine r_pure hT rfl rfl rfl rfl rfl rfl ?_ | refine r_load hT rfl rfl rfl rfl rfl rfl rfl rfl rfl ?_)))
      refine r_known (d := 97) (b := false) rfl (by rw [e1, notB_eq, eqB_eq]; simp) ?_
      (repeat ((refine r_op ?_; first | refine r_pure hT rfl rfl rfl rfl rfl rfl ?_ | refine r_load hT rfl rfl rfl rfl rfl rfl rfl rfl rfl ?_)))
      refine r_turn (d := 99) (y := I a) rfl (by rw [wr_i64 (by omega) (by omega)]) ?_
      refine r_call (rIn_ok a x.p x.b) rfl rfl rfl rfl rfl rfl rfl rfl Try.func26 rfl rfl rfl pB ?_
      rintro r S1 ⟨rfl, rfl⟩
      (repeat (first | refine r_end ?_ | (refine r_op ?_; refine r_pure hT rfl rfl rfl rfl rfl rfl ?_)))
      refine gi_known (d := 108) (b := false) rfl (by rw [in_same, e2, notB_eq]; rfl) ?_
      (repeat (first | refine gi_seq ?_ | refine gi_skip ?_ | (refine gi_cnd ?_; first | refine gi_true rfl ?_ | refine gi_false rfl ?_)))
      exact fin () _ _ _ trivial ⟨rfl, trivial⟩ trivial trivial
    · (repeat (first | refine r_end ?_ | (refine r_op ?_; first | refine r_pure hT rfl rfl rfl rfl rfl rfl ?_ | refine r_off rfl rfl rfl rfl rfl ?_) | refine gi_seq ?_ | refine gi_skip ?_ | (refine gi_cnd ?_; first | refine gi_true rfl ?_ | refine gi_false rfl ?_)))
      exact fin () _ _ _ trivial ⟨rfl, trivial⟩ trivial trivial
  case after =>
  intro _ _
  (repeat (first | refine r_end ?_ | (refine r_op ?_; refine r_pure hT rfl rfl rfl rfl rfl rfl ?_) | refine gi_plain ?_ | refine gi_block ?_))
  refine gi_loop (σ := Nat) (fun k => [(14, I (k : Int)), (7, rsRt l)]) (fun _ => []) (fun _ => []) (fun k => k ≤ i) (fun k => i - k) 0 (Nat.zero_le _) ⟨rfl, rfl, trivial⟩ trivial trivial (fun _ => rfl) (fun k hk next => ?_)
  have hk : k ≤ i := hk
  (repeat (first | refine r_end ?_ | (refine r_op ?_; refine r_pure hT rfl rfl rfl rfl rfl rfl ?_) | refine gi_seq ?_ | refine gi_plain ?_))
  refine gi_lt (p := (k : Int)) (q := ((l.map Rt.row).length : Int)) rfl (fun h5 => ?_) (fun h5 => ?_)
  · rw [List.length_map] at h5
    have hki : k < i := by omega
    have hx := hget k hki
    obtain ⟨w1, w2⟩ := hown k hki
    (repeat (first | (refine r_op ?_; refine r_pure hT rfl rfl rfl rfl rfl rfl ?_) | refine gi_seq ?_ | refine gi_plain ?_ | refine gi_skip ?_ | refine gi_block ?_))
    refine r_idx (row := (fdX (fP ps) (gP qs) k).row) hT rfl rfl rfl rfl rfl rfl rfl rfl rfl rfl rfl rfl (nn k) (by simp [hx]) ?_
    (repeat ((refine r_op ?_; first | refine r_pure hT rfl rfl rfl rfl rfl rfl ?_ | refine r_load hT rfl rfl rfl rfl rfl rfl rfl rfl rfl ?_)))
    refine r_call (pFind_ok l (netF (fP ps k) (gP qs k)) (by omega)) rfl rfl rfl rfl rfl rfl rfl rfl Try.func33 rfl rfl rfl pFdR ?_
    rintro r S1 ⟨rfl, rfl⟩
    generalize findF l (netF (fP ps k) (gP qs k)) = fy at w1 w2
    obtain ⟨y, is⟩ := fy
    simp only at w1 w2
    subst w1
    (repeat (first | refine r_end ?_ | (refine r_op ?_; first | refine r_pure hT rfl rfl rfl rfl rfl rfl ?_ | refine r_store hT rfl rfl rfl rfl rfl rfl rfl rfl rfl rfl ?_ | refine r_alloc hT rfl rfl rfl rfl rfl rfl rfl rfl rfl ?_) | refine gi_seq ?_))
    refine gi_drawM [] [(0, .p), (1, .p), (2, .p), (3, .p), (5, .p), (6, .p), (7, .p), (8, .p), (4, .t), (9, .t), (10, .p), (11, .p)] [0, 1, 2, 4, 12, 4, 4, 100, 132, 260, 532, 1028] [0, 1, 2, 4, 12, 4, 4, 100, 132, 260, 532, 1028] Kt.hm rfl (by kernel_rfl) (fun w1 K => ?_)
    (repeat ((refine r_op ?_; refine r_pure hT rfl rfl rfl rfl rfl rfl ?_)))
    refine r_known (d := 127) (b := false) rfl (by rw [notB_eq]; rfl) ?_
    (repeat ((refine r_op ?_; refine r_pure hT rfl rfl rfl rfl rfl rfl ?_)))
    refine r_idx (row := (fdX (fP ps) (gP qs) k).row) hT rfl rfl rfl rfl rfl rfl rfl rfl rfl rfl rfl rfl (nn k) (by simp [hx]) ?_
    (repeat (first | refine r_end ?_ | (refine r_op ?_; first | refine r_pure hT rfl rfl rfl rfl rfl rfl ?_ | refine r_load hT rfl rfl rfl rfl rfl rfl rfl rfl rfl ?_)))
    refine gi_known (d := 136) (b := false) rfl (by rw [ltB_eq]; exact decide_eq_false (by show ¬ y.b < gP qs k; omega)) ?_
    (repeat (first | refine r_end ?_ | (refine r_op ?_; refine r_pure hT rfl rfl rfl rfl rfl rfl ?_) | refine gi_plain ?_ | refine gi_skip ?_ | refine gi_inBlock ?_ | (refine gi_cnd ?_; first | refine gi_true rfl ?_ | refine gi_false rfl ?_)))
    refine next (k + 1) _ _ _ (by omega) (by omega) ⟨?_, rfl, trivial⟩ trivial trivial
    show some (I (wr .i64 ((k : Int) + 1))) = _
    rw [wadd1 (by omega)]
  · (repeat (first | refine gi_seq ?_ | refine gi_plain ?_ | refine gi_exit rfl ?_))
    refine r_call (awake19_ok) rfl rfl rfl rfl rfl rfl rfl rfl Try.func32 rfl rfl rfl pB ?_
    rintro r S1 ⟨rfl, rfl⟩
    (repeat (first | refine r_end ?_ | (refine r_op ?_; refine r_pure hT rfl rfl rfl rfl rfl rfl ?_)))
    refine gi_retW hT Try.func9 rfl rfl [] rfl rfl rfl rfl ?_
    exact ⟨rfl, rfl⟩
end Go.Proofs.Ytmocggibcniggaa.Kt
