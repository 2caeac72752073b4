/- Part of the proofs of this seat's statements: what the functions compute. No condition. -/
import Derived.Test.YtmocggibcniggaaC23D
import Derived.Test.YtmocggibcniggaaC18Ba
set_option linter.unusedSimpArgs false
set_option linter.unusedVariables false
namespace Go.Proofs.Ytmocggibcniggaa.Kt
open Go Kw Go.Proofs
attribute [local irreducible] Kw.GI Kw.GR Kw.FnR Kw.FnX
set_option maxHeartbeats 8000000
set_option maxRecDepth 100000
/-! ### addresses -/
def okA (a : Int) : Bool := leB 0 a && leB a 4294967295
theorem Right_ok (a : Int) : FnR Try.prog 77 [I a] (RB (okA a)) := by
  refine fnR_intro (T := TT) (n := 9) Try.func77 rfl rfl rfl (fun w Z => ?_)
  (repeat (first | refine r_end ?_ | (refine r_op ?_; refine r_pure hT rfl rfl rfl rfl rfl rfl ?_) | refine gi_seq ?_ | refine gi_plain ?_))
  refine r_case (d := 5) rfl (fun h => ?_) (fun h => ?_)
  · (repeat (first | refine r_end ?_ | (refine r_op ?_; refine r_pure hT rfl rfl rfl rfl rfl rfl ?_)))
    refine gi_retW hT Try.func77 rfl rfl [] rfl rfl rfl rfl ?_
    exact ⟨by unfold okA; rw [h]; rfl, rfl⟩
  · (repeat (first | refine r_end ?_ | (refine r_op ?_; first | refine r_pure hT rfl rfl rfl rfl rfl rfl ?_ | refine r_off rfl rfl rfl rfl rfl ?_)))
    refine gi_retW hT Try.func77 rfl rfl [] rfl rfl rfl rfl ?_
    exact ⟨by unfold okA; rw [h]; rfl, rfl⟩
theorem pMask_ok (b : Int) : FnR Try.prog 94 [I b] (RI (maskF b)) := by
  obtain ⟨g1, g2⟩ := nM_rng b
  refine fnR_intro (T := TT) (n := 9) Try.func94 rfl rfl rfl (fun w Z => ?_)
  (repeat (first | refine r_end ?_ | (refine r_op ?_; refine r_pure hT rfl rfl rfl rfl rfl rfl ?_) | refine gi_seq ?_ | refine gi_plain ?_))
  refine r_turn (d := 6) (y := I (nM b)) rfl ?_ ?_
  · rw [mm_nM]
    rw [show (32 : Int) - (32 - nM b) = nM b by omega, wr_i64 (by omega) (by omega)]
  refine r_shl rfl rfl rfl rfl rfl rfl rfl rfl g1 rfl ?_
  (repeat (first | refine r_end ?_ | (refine r_op ?_; refine r_pure hT rfl rfl rfl rfl rfl rfl ?_)))
  refine gi_retW hT Try.func94 rfl rfl [] rfl rfl rfl rfl ?_
  refine ⟨?_, rfl⟩
  unfold maskF
  rfl
@[irreducible] def pnetF (a b : Int) : Int := Go.bits .and .i64 a (maskF b)
theorem pNet_ok (a b : Int) : FnR Try.prog 78 [I a, I b] (RI (pnetF a b)) := by
  refine fnR_intro (T := TT) (n := 9) Try.func78 rfl rfl rfl (fun w Z => ?_)
  (repeat (first | refine r_end ?_ | (refine r_op ?_; refine r_pure hT rfl rfl rfl rfl rfl rfl ?_) | refine gi_seq ?_ | refine gi_plain ?_))
  refine r_call (pMask_ok b) rfl rfl rfl rfl rfl rfl rfl rfl Try.func94 rfl rfl rfl pI ?_
  rintro r S1 ⟨rfl, rfl⟩
  (repeat (first | refine r_end ?_ | (refine r_op ?_; refine r_pure hT rfl rfl rfl rfl rfl rfl ?_)))
  refine gi_retW hT Try.func78 rfl rfl [] rfl rfl rfl rfl ?_
  refine ⟨?_, rfl⟩
  unfold pnetF
  rfl
def inP (a p b : Int) : Bool := okA a && (okA p && (leB 0 b && (leB b 32 && eqB (pnetF a b) (pnetF p b))))
theorem In_ok (a p b : Int) : FnR Try.prog 48 [I a, I p, I b] (RB (inP a p b)) := by
  have done : ∀ {x : Bool}, x = inP a p b → Bo x = Bo (inP a p b) := fun h => by rw [h]
  refine fnR_intro (T := TT) (n := 30) Try.func48 rfl rfl rfl (fun w Z => ?_)
  (repeat (first | refine r_end ?_ | (refine r_op ?_; refine r_pure hT rfl rfl rfl rfl rfl rfl ?_) | refine gi_seq ?_ | refine gi_plain ?_))
  refine r_call (Right_ok a) rfl rfl rfl rfl rfl rfl rfl rfl Try.func77 rfl rfl rfl pB ?_
  rintro r S1 ⟨rfl, rfl⟩
  (repeat ((refine r_op ?_; refine r_pure hT rfl rfl rfl rfl rfl rfl ?_)))
  refine r_case (d := 9) rfl (fun h1 => ?_) (fun h1 => ?_)
  · (repeat ((refine r_op ?_; refine r_pure hT rfl rfl rfl rfl rfl rfl ?_)))
    refine r_call (Right_ok p) rfl rfl rfl rfl rfl rfl rfl rfl Try.func77 rfl rfl rfl pB ?_
    rintro r S1 ⟨rfl, rfl⟩
    (repeat ((refine r_op ?_; refine r_pure hT rfl rfl rfl rfl rfl rfl ?_)))
    refine r_case (d := 13) rfl (fun h2 => ?_) (fun h2 => ?_)
    · (repeat ((refine r_op ?_; refine r_pure hT rfl rfl rfl rfl rfl rfl ?_)))
      refine r_case (d := 17) rfl (fun h3 => ?_) (fun h3 => ?_)
      · (repeat ((refine r_op ?_; refine r_pure hT rfl rfl rfl rfl rfl rfl ?_)))
        refine r_case (d := 21) rfl (fun h4 => ?_) (fun h4 => ?_)
        · (repeat ((refine r_op ?_; refine r_pure hT rfl rfl rfl rfl rfl rfl ?_)))
          refine r_call (pNet_ok a b) rfl rfl rfl rfl rfl rfl rfl rfl Try.func78 rfl rfl rfl pI ?_
          rintro r S1 ⟨rfl, rfl⟩
          (repeat ((refine r_op ?_; refine r_pure hT rfl rfl rfl rfl rfl rfl ?_)))
          refine r_call (pNet_ok p b) rfl rfl rfl rfl rfl rfl rfl rfl Try.func78 rfl rfl rfl pI ?_
          rintro r S1 ⟨rfl, rfl⟩
          (repeat (first | refine r_end ?_ | (refine r_op ?_; refine r_pure hT rfl rfl rfl rfl rfl rfl ?_)))
          refine gi_retW hT Try.func48 rfl rfl [] rfl rfl rfl rfl ?_
          exact ⟨by unfold inP; rw [h1, h2, h3, h4]; rfl, rfl⟩
        · (repeat (first | refine r_end ?_ | (refine r_op ?_; first | refine r_pure hT rfl rfl rfl rfl rfl rfl ?_ | refine r_off rfl rfl rfl rfl rfl ?_)))
          refine gi_retW hT Try.func48 rfl rfl [] rfl rfl rfl rfl ?_
          exact ⟨by unfold inP; rw [h1, h2, h3, h4]; rfl, rfl⟩
      · (repeat (first | refine r_end ?_ | (refine r_op ?_; first | refine r_pure hT rfl rfl rfl rfl rfl rfl ?_ | refine r_off rfl rfl rfl rfl rfl ?_)))
        refine gi_retW hT Try.func48 rfl rfl [] rfl rfl rfl rfl ?_
        exact ⟨by unfold inP; rw [h1, h2, h3]; rfl, rfl⟩
    · (repeat (first | refine r_end ?_ | (refine r_op ?_; first | refine r_pure hT rfl rfl rfl rfl rfl rfl ?_ | refine r_off rfl rfl rfl rfl rfl ?_)))
      refine gi_retW hT Try.func48 rfl rfl [] rfl rfl rfl rfl ?_
      exact ⟨by unfold inP; rw [h1, h2]; rfl, rfl⟩
  · (repeat (first | refine r_end ?_ | (refine r_op ?_; first | refine r_pure hT rfl rfl rfl rfl rfl rfl ?_ | refine r_off rfl rfl rfl rfl rfl ?_)))
    refine gi_retW hT Try.func48 rfl rfl [] rfl rfl rfl rfl ?_
    exact ⟨by unfold inP; rw [h1]; rfl, rfl⟩
/-! ### where an address is -/
structure Src where
  v : Vt
  p : Int
  b : Int
  ok : Bool
abbrev Src.av (s : Src) : AV := .tup [s.v.av, I s.p, I s.b, Bo s.ok]
def z0 : Src := ⟨⟨0, 0⟩, 0, 0, false⟩
def sn1 (a : Int) (st : Src) (s : Sn) : Src := if inP a s.p s.b = true ∧ (st.ok = false ∨ st.b < s.b) then ⟨s.v, s.p, s.b, true⟩ else st
def sb1 (a : Int) (st : Src) (s : Sb) : Src := if inP a s.p s.b = true ∧ (st.ok = false ∨ st.b < s.b) then ⟨⟨1, s.r⟩, s.p, s.b, true⟩ else st
def srcF (a : Int) (m : Mp) : Src := m.sb.foldl (sb1 a) (m.sn.foldl (sn1 a) z0)
theorem foldl_tk {α β : Type} {f : β → α → β} {z : β} {l : List α} {i : Nat} {x : α} (hx : l[i]? = some x) : (l.take (i + 1)).foldl f z = f ((l.take i).foldl f z) x := by
  rw [List.take_add_one, hx, List.foldl_append]
  rfl
abbrev rsSn (l : List Sn) : AV := .r (.rs 4 (l.map Sn.row))
abbrev rsSb (l : List Sb) : AV := .r (.rs 4 (l.map Sb.row))
theorem pSource_ok (m : Mp) (a : Int) (h1 : m.sn.length < 1000000) (h2 : m.sb.length < 100000000) : FnR Try.prog 16 [avMf m, I a] (fun r S => r = (srcF a m).av ∧ S = []) := by
  refine fnR_intro (T := TT) (n := 77) Try.func16 rfl rfl rfl (fun w Z => ?_)
  (repeat (first | refine r_end ?_ | (refine r_op ?_; first | refine r_pure hT rfl rfl rfl rfl rfl rfl ?_ | refine r_load hT rfl rfl rfl rfl rfl rfl rfl rfl rfl ?_ | refine r_box rfl rfl rfl rfl rfl rfl rfl rfl rfl ?_ | refine r_alloc hT rfl rfl rfl rfl rfl rfl rfl rfl rfl ?_) | refine gi_seq ?_ | refine gi_plain ?_ | refine gi_block ?_))
  refine gi_thaw 13 rfl ?_
  refine gi_loop (σ := Nat × Src) (fun s => [(15, I (s.1 : Int)), (14, I (m.sn.length : Int)), (13, rsSn m.sn), (2, .box 0 0), (4, .box 1 0), (1, I a), (5, I s.2.p), (6, I s.2.b), (7, Bo s.2.ok)]) (fun s => [hMf m, hV s.2.v]) (fun _ => []) (fun s => s.1 ≤ m.sn.length ∧ s.2 = (m.sn.take s.1).foldl (sn1 a) z0) (fun s => m.sn.length - s.1) (0, z0) ⟨Nat.zero_le _, rfl⟩ ⟨rfl, by show some (I (((m.sn.map Sn.row).length : Nat) : Int)) = _; rw [List.length_map], rfl, rfl, rfl, rfl, rfl, rfl, rfl, trivial⟩ ⟨rfl, rfl, trivial⟩ trivial (fun _ => rfl) (fun s hs next => ?_)
  obtain ⟨i, st⟩ := s
  obtain ⟨hi, hst⟩ := hs
  simp only at hi hst
  (repeat (first | refine r_end ?_ | (refine r_op ?_; refine r_pure hT rfl rfl rfl rfl rfl rfl ?_) | refine gi_seq ?_ | refine gi_plain ?_))
  refine gi_lt (p := (i : Int)) rfl (fun h3 => ?_) (fun h3 => ?_)
  · obtain ⟨x, hx⟩ : ∃ x, m.sn[i]? = some x := ⟨_, List.getElem?_eq_getElem (by omega)⟩
    have go : ∀ st', st' = sn1 a st x → ∀ F1 H1 S1, SubF [(15, I (wr .i64 ((i : Int) + 1))), (14, I (m.sn.length : Int)), (13, rsSn m.sn), (2, .box 0 0), (4, .box 1 0), (1, I a), (5, I st'.p), (6, I st'.b), (7, Bo st'.ok)] F1 → SubH [hMf m, hV st'.v] H1 → SubS [] S1 → GI _ _ F1 H1 S1 := fun st' hst' F1 H1 S1 hF hH hS => by
      refine next (i + 1, st') F1 H1 S1 ⟨by simp only; omega, by simp only; rw [foldl_tk hx, ← hst, hst']⟩ (by simp only; omega) ?_ hH hS
      rw [wr_i64 (by omega) (by omega)] at hF
      simpa using hF
    clear next
    (repeat (first | refine gi_seq ?_ | refine gi_plain ?_ | refine gi_skip ?_ | refine gi_block ?_))
    refine r_idx (row := x.row) hT rfl rfl rfl rfl rfl rfl rfl rfl rfl rfl rfl rfl (by show (0 : Int) ≤ (i : Int); omega) (by simp [hx]) ?_
    (repeat (first | refine r_end ?_ | (refine r_op ?_; first | refine r_pure hT rfl rfl rfl rfl rfl rfl ?_ | refine r_load hT rfl rfl rfl rfl rfl rfl rfl rfl rfl ?_ | refine r_store hT rfl rfl rfl rfl rfl rfl rfl rfl rfl rfl ?_ | refine r_alloc hT rfl rfl rfl rfl rfl rfl rfl rfl rfl ?_) | refine gi_seq ?_ | refine gi_plain ?_))
    refine r_call (In_ok a x.p x.b) rfl rfl rfl rfl rfl rfl rfl rfl Try.func48 rfl rfl rfl pB ?_
    rintro r S1 ⟨rfl, rfl⟩
    (repeat ((refine r_op ?_; refine r_pure hT rfl rfl rfl rfl rfl rfl ?_)))
    refine r_case (d := 25) rfl (fun c1 => ?_) (fun c1 => ?_)
    · (repeat ((refine r_op ?_; refine r_pure hT rfl rfl rfl rfl rfl rfl ?_)))
      refine r_case (d := 28) rfl (fun c2 => ?_) (fun c2 => ?_)
      · rw [notB_eq, Bool.not_eq_true'] at c2
        have hs1 : (⟨x.v, x.p, x.b, true⟩ : Src) = sn1 a st x := (if_pos ⟨c1, .inl c2⟩).symm
        (repeat (first | refine r_end ?_ | (refine r_op ?_; first | refine r_pure hT rfl rfl rfl rfl rfl rfl ?_ | refine r_off rfl rfl rfl rfl rfl ?_) | (refine gi_cnd ?_; first | refine gi_true rfl ?_ | refine gi_false rfl ?_)))
        refine gi_pick [0, 2, 1] [] rfl rfl rfl rfl rfl ?_
        refine gi_drawT 2 true 10 [] [(0, .p), (2, .p), (4, .p), (1, .t), (3, .t), (5, .t), (6, .o), (7, .p), (8, .p), (9, .p)] .it hm rfl (by kernel_rfl) (fun w1 K => ?_)
        (repeat (first | refine r_end ?_ | (refine r_op ?_; first | refine r_pure hT rfl rfl rfl rfl rfl rfl ?_ | refine r_load hT rfl rfl rfl rfl rfl rfl rfl rfl rfl ?_ | refine r_storeO hT rfl rfl rfl rfl rfl rfl rfl rfl rfl rfl rfl ?_) | refine gi_plain ?_ | refine gi_inBlock ?_))
        refine gi_pick [0, 2] [] rfl rfl rfl rfl rfl ?_
        skip
        exact go _ hs1 _ _ _ ⟨rfl, rfl, rfl, rfl, rfl, rfl, rfl, rfl, rfl, trivial⟩ ⟨rfl, rfl, trivial⟩ trivial
      · rw [notB_eq, Bool.not_eq_false'] at c2
        (repeat (first | refine r_end ?_ | (refine r_op ?_; first | refine r_pure hT rfl rfl rfl rfl rfl rfl ?_ | refine r_load hT rfl rfl rfl rfl rfl rfl rfl rfl rfl ?_)))
        refine gi_lt rfl (fun c3 => ?_) (fun c3 => ?_)
        · have hs1 : (⟨x.v, x.p, x.b, true⟩ : Src) = sn1 a st x := (if_pos ⟨c1, .inr c3⟩).symm
          skip
          refine gi_pick [0, 2, 1] [] rfl rfl rfl rfl rfl ?_
          refine gi_drawT 2 true 10 [] [(0, .p), (2, .p), (4, .p), (1, .t), (3, .t), (5, .t), (6, .o), (7, .p), (8, .p), (9, .p)] .it hm rfl (by kernel_rfl) (fun w1 K => ?_)
          (repeat (first | refine r_end ?_ | (refine r_op ?_; first | refine r_pure hT rfl rfl rfl rfl rfl rfl ?_ | refine r_load hT rfl rfl rfl rfl rfl rfl rfl rfl rfl ?_ | refine r_storeO hT rfl rfl rfl rfl rfl rfl rfl rfl rfl rfl rfl ?_) | refine gi_plain ?_ | refine gi_inBlock ?_))
          refine gi_pick [0, 2] [] rfl rfl rfl rfl rfl ?_
          skip
          exact go _ hs1 _ _ _ ⟨rfl, rfl, rfl, rfl, rfl, rfl, rfl, rfl, rfl, trivial⟩ ⟨rfl, rfl, trivial⟩ trivial
        · have hs1 : st = sn1 a st x := (if_neg (fun h => h.2.elim (fun h => by rw [c2] at h; cases h) c3)).symm
          (repeat (first | refine r_end ?_ | (refine r_op ?_; refine r_pure hT rfl rfl rfl rfl rfl rfl ?_) | refine gi_plain ?_ | refine gi_skip ?_ | refine gi_inBlock ?_))
          exact go _ hs1 _ _ _ ⟨rfl, rfl, rfl, rfl, rfl, rfl, rfl, rfl, rfl, trivial⟩ ⟨rfl, rfl, trivial⟩ trivial
    · have hs1 : st = sn1 a st x := (if_neg (fun h => by rw [c1] at h; cases h.1)).symm
      (repeat (first | refine r_end ?_ | (refine r_op ?_; first | refine r_pure hT rfl rfl rfl rfl rfl rfl ?_ | refine r_off rfl rfl rfl rfl rfl ?_) | refine gi_plain ?_ | refine gi_skip ?_ | refine gi_inBlock ?_ | (refine gi_cnd ?_; first | refine gi_true rfl ?_ | refine gi_false rfl ?_)))
      exact go _ hs1 _ _ _ ⟨rfl, rfl, rfl, rfl, rfl, rfl, rfl, rfl, rfl, trivial⟩ ⟨rfl, rfl, trivial⟩ trivial
  · have hil : i = m.sn.length := by omega
    subst hil
    rw [List.take_length] at hst
    (repeat (first | refine r_end ?_ | (refine r_op ?_; first | refine r_pure hT rfl rfl rfl rfl rfl rfl ?_ | refine r_load hT rfl rfl rfl rfl rfl rfl rfl rfl rfl ?_) | refine gi_seq ?_ | refine gi_plain ?_ | refine gi_block ?_ | refine gi_exit rfl ?_))
    refine gi_thaw 43 rfl ?_
    refine gi_loop (σ := Nat × Src) (fun s => [(45, I (s.1 : Int)), (44, I (m.sb.length : Int)), (43, rsSb m.sb), (2, .box 0 0), (4, .box 1 0), (1, I a), (5, I s.2.p), (6, I s.2.b), (7, Bo s.2.ok)]) (fun s => [hMf m, hV s.2.v]) (fun _ => []) (fun s => s.1 ≤ m.sb.length ∧ s.2 = (m.sb.take s.1).foldl (sb1 a) st) (fun s => m.sb.length - s.1) (0, st) ⟨Nat.zero_le _, rfl⟩ ⟨rfl, by show some (I (((m.sb.map Sb.row).length : Nat) : Int)) = _; rw [List.length_map], rfl, rfl, rfl, rfl, rfl, rfl, rfl, trivial⟩ ⟨rfl, rfl, trivial⟩ trivial (fun _ => rfl) (fun s hs next => ?_)
    obtain ⟨i, su⟩ := s
    obtain ⟨hi, hsu⟩ := hs
    simp only at hi hsu
    (repeat (first | refine r_end ?_ | (refine r_op ?_; refine r_pure hT rfl rfl rfl rfl rfl rfl ?_) | refine gi_seq ?_ | refine gi_plain ?_))
    refine gi_lt (p := (i : Int)) rfl (fun h3 => ?_) (fun h3 => ?_)
    · obtain ⟨x, hx⟩ : ∃ x, m.sb[i]? = some x := ⟨_, List.getElem?_eq_getElem (by omega)⟩
      have go : ∀ st', st' = sb1 a su x → ∀ F1 H1 S1, SubF [(45, I (wr .i64 ((i : Int) + 1))), (44, I (m.sb.length : Int)), (43, rsSb m.sb), (2, .box 0 0), (4, .box 1 0), (1, I a), (5, I st'.p), (6, I st'.b), (7, Bo st'.ok)] F1 → SubH [hMf m, hV st'.v] H1 → SubS [] S1 → GI _ _ F1 H1 S1 := fun st' hst' F1 H1 S1 hF hH hS => by
        refine next (i + 1, st') F1 H1 S1 ⟨by simp only; omega, by simp only; rw [foldl_tk hx, ← hsu, hst']⟩ (by simp only; omega) ?_ hH hS
        rw [wr_i64 (by omega) (by omega)] at hF
        simpa using hF
      clear next
      (repeat (first | refine gi_seq ?_ | refine gi_plain ?_ | refine gi_skip ?_ | refine gi_block ?_))
      refine r_idx (row := x.row) hT rfl rfl rfl rfl rfl rfl rfl rfl rfl rfl rfl rfl (by show (0 : Int) ≤ (i : Int); omega) (by simp [hx]) ?_
      (repeat (first | refine r_end ?_ | (refine r_op ?_; first | refine r_pure hT rfl rfl rfl rfl rfl rfl ?_ | refine r_load hT rfl rfl rfl rfl rfl rfl rfl rfl rfl ?_ | refine r_store hT rfl rfl rfl rfl rfl rfl rfl rfl rfl rfl ?_ | refine r_alloc hT rfl rfl rfl rfl rfl rfl rfl rfl rfl ?_) | refine gi_seq ?_ | refine gi_plain ?_))
      refine r_call (In_ok a x.p x.b) rfl rfl rfl rfl rfl rfl rfl rfl Try.func48 rfl rfl rfl pB ?_
      rintro r S1 ⟨rfl, rfl⟩
      (repeat ((refine r_op ?_; refine r_pure hT rfl rfl rfl rfl rfl rfl ?_)))
      refine r_case (d := 55) rfl (fun c1 => ?_) (fun c1 => ?_)
      · (repeat ((refine r_op ?_; refine r_pure hT rfl rfl rfl rfl rfl rfl ?_)))
        refine r_case (d := 58) rfl (fun c2 => ?_) (fun c2 => ?_)
        · rw [notB_eq, Bool.not_eq_true'] at c2
          have hs1 : (⟨⟨1, x.r⟩, x.p, x.b, true⟩ : Src) = sb1 a su x := (if_pos ⟨c1, .inl c2⟩).symm
          (repeat (first | refine r_end ?_ | (refine r_op ?_; first | refine r_pure hT rfl rfl rfl rfl rfl rfl ?_ | refine r_off rfl rfl rfl rfl rfl ?_) | (refine gi_cnd ?_; first | refine gi_true rfl ?_ | refine gi_false rfl ?_)))
          refine gi_pick [0, 2, 1] [] rfl rfl rfl rfl rfl ?_
          refine gi_drawT 2 true 11 [] [(0, .p), (3, .p), (5, .p), (1, .t), (2, .p), (4, .t), (6, .t), (7, .o), (8, .p), (9, .p), (10, .p)] .it hm rfl (by kernel_rfl) (fun w1 K => ?_)
          (repeat (first | refine r_end ?_ | (refine r_op ?_; first | refine r_pure hT rfl rfl rfl rfl rfl rfl ?_ | refine r_load hT rfl rfl rfl rfl rfl rfl rfl rfl rfl ?_ | refine r_storeO hT rfl rfl rfl rfl rfl rfl rfl rfl rfl rfl rfl ?_) | refine gi_plain ?_ | refine gi_inBlock ?_))
          refine gi_pick [0, 2] [] rfl rfl rfl rfl rfl ?_
          skip
          exact go _ hs1 _ _ _ ⟨rfl, rfl, rfl, rfl, rfl, rfl, rfl, rfl, rfl, trivial⟩ ⟨rfl, rfl, trivial⟩ trivial
        · rw [notB_eq, Bool.not_eq_false'] at c2
          (repeat (first | refine r_end ?_ | (refine r_op ?_; first | refine r_pure hT rfl rfl rfl rfl rfl rfl ?_ | refine r_load hT rfl rfl rfl rfl rfl rfl rfl rfl rfl ?_)))
          refine gi_lt rfl (fun c3 => ?_) (fun c3 => ?_)
          · have hs1 : (⟨⟨1, x.r⟩, x.p, x.b, true⟩ : Src) = sb1 a su x := (if_pos ⟨c1, .inr c3⟩).symm
            skip
            refine gi_pick [0, 2, 1] [] rfl rfl rfl rfl rfl ?_
            refine gi_drawT 2 true 11 [] [(0, .p), (3, .p), (5, .p), (1, .t), (2, .p), (4, .t), (6, .t), (7, .o), (8, .p), (9, .p), (10, .p)] .it hm rfl (by kernel_rfl) (fun w1 K => ?_)
            (repeat (first | refine r_end ?_ | (refine r_op ?_; first | refine r_pure hT rfl rfl rfl rfl rfl rfl ?_ | refine r_load hT rfl rfl rfl rfl rfl rfl rfl rfl rfl ?_ | refine r_storeO hT rfl rfl rfl rfl rfl rfl rfl rfl rfl rfl rfl ?_) | refine gi_plain ?_ | refine gi_inBlock ?_))
            refine gi_pick [0, 2] [] rfl rfl rfl rfl rfl ?_
            skip
            exact go _ hs1 _ _ _ ⟨rfl, rfl, rfl, rfl, rfl, rfl, rfl, rfl, rfl, trivial⟩ ⟨rfl, rfl, trivial⟩ trivial
          · have hs1 : su = sb1 a su x := (if_neg (fun h => h.2.elim (fun h => by rw [c2] at h; cases h) c3)).symm
            (repeat (first | refine r_end ?_ | (refine r_op ?_; refine r_pure hT rfl rfl rfl rfl rfl rfl ?_) | refine gi_plain ?_ | refine gi_skip ?_ | refine gi_inBlock ?_))
            exact go _ hs1 _ _ _ ⟨rfl, rfl, rfl, rfl, rfl, rfl, rfl, rfl, rfl, trivial⟩ ⟨rfl, rfl, trivial⟩ trivial
      · have hs1 : su = sb1 a su x := (if_neg (fun h => by rw [c1] at h; cases h.1)).symm
        (repeat (first | refine r_end ?_ | (refine r_op ?_; first | refine r_pure hT rfl rfl rfl rfl rfl rfl ?_ | refine r_off rfl rfl rfl rfl rfl ?_) | refine gi_plain ?_ | refine gi_skip ?_ | refine gi_inBlock ?_ | (refine gi_cnd ?_; first | refine gi_true rfl ?_ | refine gi_false rfl ?_)))
        exact go _ hs1 _ _ _ ⟨rfl, rfl, rfl, rfl, rfl, rfl, rfl, rfl, rfl, trivial⟩ ⟨rfl, rfl, trivial⟩ trivial
    · have hil : i = m.sb.length := by omega
      subst hil
      rw [List.take_length] at hsu
      have hfin : su = srcF a m := by unfold srcF; rw [hsu, hst]
      (repeat (first | refine r_end ?_ | (refine r_op ?_; first | refine r_pure hT rfl rfl rfl rfl rfl rfl ?_ | refine r_load hT rfl rfl rfl rfl rfl rfl rfl rfl rfl ?_ | refine r_store hT rfl rfl rfl rfl rfl rfl rfl rfl rfl rfl ?_) | refine gi_seq ?_ | refine gi_plain ?_ | refine gi_exit rfl ?_))
      refine gi_retW hT Try.func16 rfl rfl [] rfl rfl rfl rfl ?_
      exact ⟨by rw [← hfin], rfl⟩
end Go.Proofs.Ytmocggibcniggaa.Kt
