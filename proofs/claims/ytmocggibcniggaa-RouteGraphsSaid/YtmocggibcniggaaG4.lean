/- Part of the proofs of this seat's statements: what the functions compute. No condition. -/
import Derived.Test.YtmocggibcniggaaG3
import Derived.Test.YtmocggibcniggaaG2
import Derived.Test.YtmocggibcniggaaK4
set_option linter.unusedSimpArgs false
set_option linter.unusedVariables false
namespace Go.Proofs.Ytmocggibcniggaa.Kt
open Go Kw Go.Proofs
attribute [local irreducible] Kw.GI Kw.GR Kw.FnR Kw.FnX Kw.FnI
set_option maxHeartbeats 16000000
set_option maxRecDepth 100000
/-! ### the first hop towards a Node -/
/-- Each Node but the first has its parent ahead of it. -/
structure Tre (t : List Nd) : Prop where
  root : ∀ n, t[0]? = some n → n.p = -1
  up : ∀ (j : Nat) n, 0 < j → t[j]? = some n → ∃ p : Nat, n.p = p ∧ p < j
theorem Tr.tre {l : List Ls} {v : Vt} {t : List Nd} (h : Tr l v t) : Tre t where
  root := fun n hn => by rw [h.hd] at hn; cases hn; rfl
  up := fun j n hj hn => by
    obtain ⟨e, _, p, x, hp, _, _, _, hnp, _⟩ := h.gr.edge (by omega) hn
    exact ⟨p, hnp, hp⟩
theorem tre_nil : Tre [] := ⟨fun n h => (nomatch h), fun j n _ h => by rw [List.getElem?_nil] at h; cases h⟩
def par (t : List Nd) (i : Nat) : Nat := ((t.getD i zNd).p).toNat
def anc (t : List Nd) (i : Nat) : Nat → Nat
  | 0 => i
  | m + 1 => par t (anc t i m)
def dep (t : List Nd) : Nat → Nat → Nat
  | 0, _ => 0
  | f + 1, i => if i = 0 then 0 else dep t f (par t i) + 1
/-- The first hop: the own address, who is next. -/
def hopF (t : List Nd) (i : Nat) : Int × Int :=
  if dep t i i = 0 then (0, 0) else
  if (t.getD (anc t i (dep t i i - 1)) zNd).v.k = 1 then ((t.getD (anc t i (dep t i i - 1)) zNd).d, (t.getD (anc t i (dep t i i - 1)) zNd).v.i) else
  if dep t i i = 1 then ((t.getD (anc t i (dep t i i - 1)) zNd).d, 0) else ((t.getD (anc t i (dep t i i - 1)) zNd).d, (t.getD (anc t i (dep t i i - 2)) zNd).d)
section
variable {t : List Nd} {i : Nat}
theorem par_at (h : Tre t) (hi : 0 < i) {n : Nd} (hn : t[i]? = some n) : n.p = par t i ∧ par t i < i := by
  obtain ⟨p, h1, h2⟩ := h.up i n hi hn
  have : par t i = p := by unfold par; rw [List.getD_eq_getElem?_getD, hn]; show n.p.toNat = p; rw [h1, Int.toNat_natCast]
  rw [this]
  exact ⟨h1, h2⟩
theorem anc_par (m : Nat) : anc t (par t i) m = anc t i (m + 1) := by
  induction m with
  | zero => rfl
  | succ m ih => show par t (anc t (par t i) m) = par t (anc t i (m + 1)); rw [ih]
theorem anc_le (h : Tre t) (hi : i < t.length) : ∀ {m : Nat}, (∀ u, u < m → 0 < anc t i u) → anc t i m + m ≤ i
  | 0, _ => Nat.le_refl _
  | m + 1, hm => by
    have h1 := anc_le h hi (m := m) (fun u hu => hm u (by omega))
    have h2 := hm m (by omega)
    obtain ⟨n, hn⟩ : ∃ n, t[anc t i m]? = some n := ⟨_, List.getElem?_eq_getElem (by omega)⟩
    have := (par_at h h2 hn).2
    show par t (anc t i m) + (m + 1) ≤ i
    omega
theorem dep_spec (h : Tre t) : ∀ {f i : Nat}, i ≤ f → i < t.length → anc t i (dep t f i) = 0 ∧ ∀ m, m < dep t f i → 0 < anc t i m
  | 0, i, hf, _ => ⟨by have : i = 0 := by omega
                       subst this; rfl, fun m hm => by unfold dep at hm; omega⟩
  | f + 1, i, hf, hi => by
    unfold dep
    by_cases h0 : i = 0
    · rw [if_pos h0]
      exact ⟨h0, fun m hm => by omega⟩
    · rw [if_neg h0]
      obtain ⟨n, hn⟩ : ∃ n, t[i]? = some n := ⟨_, List.getElem?_eq_getElem hi⟩
      have hp := (par_at h (by omega) hn).2
      obtain ⟨h1, h2⟩ := dep_spec h (f := f) (i := par t i) (by omega) (by omega)
      refine ⟨by rw [← anc_par]; exact h1, fun m hm => ?_⟩
      cases m with
      | zero => show 0 < i; omega
      | succ m => rw [← anc_par]; exact h2 m (by omega)
end
abbrev RHop (x : Int × Int) : AV → Sp → Prop := fun r S => r = .tup [I x.1, I x.2] ∧ S = []
theorem pHop {x : Int × Int} : ∀ r S1, (r = .tup [I x.1, I x.2] ∧ S1 = []) → plainA r = true ∧ PlainS S1 := pA rfl
abbrev wayL (t : List Nd) (i m : Nat) : List Int := (List.range m).map (fun u => ((anc t i u : Nat) : Int))
theorem way_snoc (t : List Nd) (i m : Nat) : wayL t i (m + 1) = wayL t i m ++ [((anc t i m : Nat) : Int)] := by
  unfold wayL
  rw [List.range_succ, List.map_append]
  rfl
theorem way_get {t : List Nd} {i m u : Nat} (hu : u < m) : ((wayL t i m).map nRow)[u]? = some (nRow ((anc t i u : Nat) : Int)) := by
  rw [List.getElem?_map, List.getElem?_map, List.getElem?_range hu]
  rfl
theorem hop_ok (t : List Nd) (i : Nat) (h : Tre t) (hi : i < t.length) (hl : t.length < 1000000) : FnR Try.prog 62 [rsNd t, I (i : Int)] (RHop (hopF t i)) := by
  obtain ⟨M, hM⟩ : ∃ M, M = dep t i i := ⟨_, rfl⟩
  obtain ⟨d1, d2⟩ := dep_spec h (Nat.le_refl i) hi
  rw [← hM] at d1 d2
  have hle := fun m hm => anc_le h hi (m := m) (fun u hu => d2 u (Nat.lt_of_lt_of_le hu hm))
  unfold hopF
  rw [← hM]
  refine fnR_intro (T := TT) (n := 63) Try.func62 rfl rfl rfl (fun w Z => ?_)
  (repeat (first | refine r_end ?_ | (refine r_op ?_; refine r_pure hT rfl rfl rfl rfl rfl rfl ?_) | refine gi_seq ?_ | refine gi_plain ?_ | refine gi_block ?_))
  refine gi_adopt (e := 3) (sz := 1) 6 rfl ?_
  refine gi_loop (σ := Nat) (fun m => [(1, I (anc t i m : Int)), (6, .sl 0), (0, rsNd t), (4, I 0), (5, I 0)]) (fun _ => []) (fun m => [eN (wayL t i m)]) (fun m => m ≤ M) (fun m => M - m) 0 (Nat.zero_le _) ⟨rfl, rfl, rfl, rfl, rfl, trivial⟩ trivial ⟨rfl, trivial⟩ (fun _ => rfl) (fun m hm next => ?_)
  have hm : m ≤ M := hm
  have hml := hle m hm
  (repeat (first | (refine r_op ?_; refine r_pure hT rfl rfl rfl rfl rfl rfl ?_) | refine gi_seq ?_ | refine gi_plain ?_))
  refine r_case (d := 10) rfl (fun c1 => ?_) (fun c1 => ?_)
  · rw [ltB_eq] at c1
    have c1 := of_decide_eq_true c1
    have hmM : m < M := by
      rcases Nat.lt_or_eq_of_le hm with h | h
      · exact h
      · rw [h, d1] at c1; omega
    obtain ⟨n, hn⟩ : ∃ n, t[anc t i m]? = some n := ⟨_, List.getElem?_eq_getElem (by omega)⟩
    obtain ⟨p1, p2⟩ := par_at h (by omega) hn
    (repeat (first | refine r_end ?_ | (refine r_op ?_; refine r_pure hT rfl rfl rfl rfl rfl rfl ?_)))
    refine gi_known (d := 16) (b := true) rfl (by rw [ltB_eq, List.length_map, List.length_map, List.length_map, List.length_range]; exact decide_eq_true (by omega)) ?_
    (repeat (first | (refine r_op ?_; first | refine r_pure hT rfl rfl rfl rfl rfl rfl ?_ | refine r_lit hT rfl rfl rfl rfl rfl rfl rfl rfl rfl rfl rfl rfl rfl ?_) | refine gi_seq ?_ | refine gi_plain ?_ | refine gi_skip ?_ | refine gi_block ?_ | (refine gi_cnd ?_; first | refine gi_true rfl ?_ | refine gi_false rfl ?_)))
    refine r_append hT rfl rfl rfl rfl rfl rfl rfl rfl rfl rfl rfl rfl rfl rfl rfl rfl rfl (by simp only [List.length_cons, List.length_nil, List.length_map, List.length_range, maxLen]; exact ⟨by omega, by show _ * 8 ≤ _; omega⟩) ?_
    (repeat (first | refine r_end ?_ | (refine r_op ?_; refine r_pure hT rfl rfl rfl rfl rfl rfl ?_) | refine gi_plain ?_ | refine gi_inBlock ?_))
    refine r_idx (row := n.row) hT rfl rfl rfl rfl rfl rfl rfl rfl rfl rfl rfl rfl (by show (0 : Int) ≤ ((anc t i m : Nat) : Int); omega) (by simp [hn]) ?_
    (repeat (first | refine r_end ?_ | (refine r_op ?_; first | refine r_pure hT rfl rfl rfl rfl rfl rfl ?_ | refine r_load hT rfl rfl rfl rfl rfl rfl rfl rfl rfl ?_)))
    refine gi_pick [] [0] rfl rfl rfl rfl rfl ?_
    refine next (m + 1) _ _ _ hmM (by omega) ⟨?_, rfl, rfl, rfl, rfl, trivial⟩ trivial ⟨?_, trivial⟩
    · show some (I n.p) = some (I ((par t (anc t i m) : Nat) : Int))
      rw [p1]
    · rw [way_snoc]
      exact eN_ap (wayL t i m) [_]
  · rw [ltB_eq] at c1
    have c1 := of_decide_eq_false c1
    have hmM : m = M := by
      rcases Nat.lt_or_eq_of_le hm with h | h
      · have := d2 m h; omega
      · exact h
    subst hmM
    clear next
    (repeat (first | refine r_end ?_ | (refine r_op ?_; first | refine r_pure hT rfl rfl rfl rfl rfl rfl ?_ | refine r_off rfl rfl rfl rfl rfl ?_) | refine gi_seq ?_ | refine gi_plain ?_ | refine gi_exit rfl ?_ | (refine gi_cnd ?_; first | refine gi_true rfl ?_ | refine gi_false rfl ?_)))
    refine gi_eq (p := (((wayL t i m).map nRow).length : Int)) (q := 0) rfl (fun c2 => ?_) (fun c2 => ?_)
    · rw [List.length_map, List.length_map, List.length_range] at c2
      (repeat (first | refine r_end ?_ | (refine r_op ?_; refine r_pure hT rfl rfl rfl rfl rfl rfl ?_) | refine gi_seq ?_ | refine gi_plain ?_))
      refine gi_retW hT Try.func62 rfl rfl [] rfl rfl rfl rfl ?_
      rw [if_pos (by omega)]
      exact ⟨rfl, rfl⟩
    · rw [List.length_map, List.length_map, List.length_range] at c2
      obtain ⟨m0, rfl⟩ : ∃ m0, m = m0 + 1 := ⟨m - 1, by omega⟩
      rw [if_neg (by omega), show m0 + 1 - 1 = m0 by omega]
      have hm0 := hle m0 (by omega)
      obtain ⟨n, hn⟩ : ∃ n, t[anc t i m0]? = some n := ⟨_, List.getElem?_eq_getElem (by omega)⟩
      have hgd : t.getD (anc t i m0) zNd = n := by rw [List.getD_eq_getElem?_getD, hn]; rfl
      rw [hgd]
      (repeat (first | (refine r_op ?_; refine r_pure hT rfl rfl rfl rfl rfl rfl ?_) | refine gi_seq ?_ | refine gi_plain ?_ | refine gi_skip ?_))
      refine r_turn (d := 33) (y := I (m0 : Int)) rfl (by rw [List.length_map, List.length_map, List.length_range, wsub1 (by omega)]) ?_
      refine r_idxS hT rfl rfl rfl rfl rfl rfl rfl rfl rfl rfl rfl rfl rfl (nn m0) (by show ((m0 : Nat) : Int).toNat < ((wayL t i (m0 + 1)).map nRow).length; rw [Int.toNat_natCast, List.length_map, List.length_map, List.length_range]; omega) ?_
      skip
      refine r_loadS (row := nRow ((anc t i m0 : Nat) : Int)) hT rfl rfl rfl rfl rfl rfl rfl rfl (by rw [Int.toNat_natCast]; exact way_get (by omega)) rfl rfl rfl ?_
      skip
      refine r_idx (row := n.row) hT rfl rfl rfl rfl rfl rfl rfl rfl rfl rfl rfl rfl (by show (0 : Int) ≤ ((anc t i m0 : Nat) : Int); omega) (by simp [hn]) ?_
      (repeat (first | refine r_end ?_ | (refine r_op ?_; first | refine r_pure hT rfl rfl rfl rfl rfl rfl ?_ | refine r_load hT rfl rfl rfl rfl rfl rfl rfl rfl rfl ?_ | refine r_store hT rfl rfl rfl rfl rfl rfl rfl rfl rfl rfl ?_ | refine r_alloc hT rfl rfl rfl rfl rfl rfl rfl rfl rfl ?_) | refine gi_seq ?_ | refine gi_plain ?_ | refine gi_block ?_))
      refine gi_eq (p := n.v.k) (q := 1) rfl (fun c3 => ?_) (fun c3 => ?_)
      · rw [if_pos c3]
        (repeat (first | refine r_end ?_ | (refine r_op ?_; first | refine r_pure hT rfl rfl rfl rfl rfl rfl ?_ | refine r_load hT rfl rfl rfl rfl rfl rfl rfl rfl rfl ?_) | refine gi_seq ?_ | refine gi_plain ?_ | refine gi_inBlock ?_))
        refine gi_retW hT Try.func62 rfl rfl [] rfl rfl rfl rfl ?_
        exact ⟨rfl, rfl⟩
      · rw [if_neg c3]
        (repeat (first | refine r_end ?_ | (refine r_op ?_; refine r_pure hT rfl rfl rfl rfl rfl rfl ?_) | refine gi_seq ?_ | refine gi_plain ?_))
        refine gi_lt (p := 1) (q := (((wayL t i (m0 + 1)).map nRow).length : Int)) rfl (fun c4 => ?_) (fun c4 => ?_)
        · rw [List.length_map, List.length_map, List.length_range] at c4
          obtain ⟨m1, rfl⟩ : ∃ m1, m0 = m1 + 1 := ⟨m0 - 1, by omega⟩
          rw [if_neg (by omega), show m1 + 1 + 1 - 2 = m1 by omega]
          have hm1 := hle m1 (by omega)
          obtain ⟨b, hb⟩ : ∃ n, t[anc t i m1]? = some n := ⟨_, List.getElem?_eq_getElem (by omega)⟩
          have hgb : t.getD (anc t i m1) zNd = b := by rw [List.getD_eq_getElem?_getD, hb]; rfl
          rw [hgb]
          (repeat (first | (refine r_op ?_; refine r_pure hT rfl rfl rfl rfl rfl rfl ?_) | refine gi_plain ?_))
          refine r_turn (d := 54) (y := I (m1 : Int)) rfl (by rw [List.length_map, List.length_map, List.length_range, show (2 : Int) = ((2 : Nat) : Int) from rfl, wsub (c := m1) (by omega) (by omega)]) ?_
          refine r_idxS hT rfl rfl rfl rfl rfl rfl rfl rfl rfl rfl rfl rfl rfl (nn m1) (by show ((m1 : Nat) : Int).toNat < ((wayL t i (m1 + 1 + 1)).map nRow).length; rw [Int.toNat_natCast, List.length_map, List.length_map, List.length_range]; omega) ?_
          skip
          refine r_loadS (row := nRow ((anc t i m1 : Nat) : Int)) hT rfl rfl rfl rfl rfl rfl rfl rfl (by rw [Int.toNat_natCast]; exact way_get (by omega)) rfl rfl rfl ?_
          skip
          refine r_idx (row := b.row) hT rfl rfl rfl rfl rfl rfl rfl rfl rfl rfl rfl rfl (by show (0 : Int) ≤ ((anc t i m1 : Nat) : Int); omega) (by simp [hb]) ?_
          (repeat (first | refine r_end ?_ | (refine r_op ?_; first | refine r_pure hT rfl rfl rfl rfl rfl rfl ?_ | refine r_load hT rfl rfl rfl rfl rfl rfl rfl rfl rfl ?_) | refine gi_seq ?_ | refine gi_plain ?_ | refine gi_inBlock ?_))
          refine gi_retW hT Try.func62 rfl rfl [] rfl rfl rfl rfl ?_
          exact ⟨rfl, rfl⟩
        · rw [List.length_map, List.length_map, List.length_range] at c4
          rw [if_pos (by omega)]
          (repeat (first | refine r_end ?_ | (refine r_op ?_; first | refine r_pure hT rfl rfl rfl rfl rfl rfl ?_ | refine r_load hT rfl rfl rfl rfl rfl rfl rfl rfl rfl ?_) | refine gi_seq ?_ | refine gi_plain ?_ | refine gi_skip ?_ | refine gi_inBlock ?_))
          refine gi_retW hT Try.func62 rfl rfl [] rfl rfl rfl rfl ?_
          exact ⟨rfl, rfl⟩
theorem rhop_ok (t : List Nd) (i : Nat) (h : Tre t) (hi : i < t.length) (hl : t.length < 1000000) : FnR Try.prog 69 [rsNd t, I (i : Int)] (RHop (hopF t i)) := by
  obtain ⟨M, hM⟩ : ∃ M, M = dep t i i := ⟨_, rfl⟩
  obtain ⟨d1, d2⟩ := dep_spec h (Nat.le_refl i) hi
  rw [← hM] at d1 d2
  have hle := fun m hm => anc_le h hi (m := m) (fun u hu => d2 u (Nat.lt_of_lt_of_le hu hm))
  unfold hopF
  rw [← hM]
  obtain ⟨n0, hn0⟩ : ∃ n, t[i]? = some n := ⟨_, List.getElem?_eq_getElem hi⟩
  refine fnR_intro (T := TT) (n := 64) Try.func69 rfl rfl rfl (fun w Z => ?_)
  (repeat (first | refine r_end ?_ | (refine r_op ?_; refine r_pure hT rfl rfl rfl rfl rfl rfl ?_) | refine gi_seq ?_ | refine gi_plain ?_))
  refine r_idx (row := n0.row) hT rfl rfl rfl rfl rfl rfl rfl rfl rfl rfl rfl rfl (nn i) (by simp [hn0]) ?_
  (repeat (first | refine r_end ?_ | (refine r_op ?_; first | refine r_pure hT rfl rfl rfl rfl rfl rfl ?_ | refine r_load hT rfl rfl rfl rfl rfl rfl rfl rfl rfl ?_)))
  refine gi_lt (p := n0.p) (q := 0) rfl (fun c1 => ?_) (fun c1 => ?_)
  · have hM0 : M = 0 := by
      rcases Nat.eq_zero_or_pos M with h0 | h0
      · exact h0
      · have := (par_at h (d2 0 h0) hn0).1
        omega
    (repeat (first | refine r_end ?_ | (refine r_op ?_; refine r_pure hT rfl rfl rfl rfl rfl rfl ?_) | refine gi_seq ?_ | refine gi_plain ?_))
    refine gi_retW hT Try.func69 rfl rfl [] rfl rfl rfl rfl ?_
    rw [if_pos hM0]
    exact ⟨rfl, rfl⟩
  have hM0 : 0 < M := by
    rcases Nat.eq_zero_or_pos M with h0 | h0
    · rw [h0] at d1
      have d1 : i = 0 := d1
      subst d1
      have := h.root n0 hn0
      omega
    · exact h0
  (repeat (first | refine r_end ?_ | (refine r_op ?_; refine r_pure hT rfl rfl rfl rfl rfl rfl ?_) | refine gi_seq ?_ | refine gi_plain ?_ | refine gi_skip ?_ | refine gi_block ?_))
  refine gi_loop (σ := Nat) (fun m => [(6, I (anc t i m : Int)), (7, I (if m = 0 then -1 else ((anc t i (m - 1) : Nat) : Int))), (0, rsNd t)]) (fun _ => []) (fun _ => []) (fun m => m < M) (fun m => M - m) 0 hM0 ⟨rfl, rfl, rfl, trivial⟩ trivial trivial (fun _ => rfl) (fun m hm next => ?_)
  have hm : m < M := hm
  have hml := hle m (by omega)
  obtain ⟨n, hn⟩ : ∃ n, t[anc t i m]? = some n := ⟨_, List.getElem?_eq_getElem (by omega)⟩
  obtain ⟨p1, p2⟩ := par_at h (d2 m hm) hn
  have p1 : n.p = ((anc t i (m + 1) : Nat) : Int) := p1
  have hgd : t.getD (anc t i m) zNd = n := by rw [List.getD_eq_getElem?_getD, hn]; rfl
  (repeat (first | (refine r_op ?_; refine r_pure hT rfl rfl rfl rfl rfl rfl ?_) | refine gi_seq ?_ | refine gi_plain ?_))
  refine r_idx (row := n.row) hT rfl rfl rfl rfl rfl rfl rfl rfl rfl rfl rfl rfl (nn _) (by simp [hn]) ?_
  (repeat (first | refine r_end ?_ | (refine r_op ?_; first | refine r_pure hT rfl rfl rfl rfl rfl rfl ?_ | refine r_load hT rfl rfl rfl rfl rfl rfl rfl rfl rfl ?_)))
  refine gi_lt (p := 0) (q := n.p) rfl (fun c2 => ?_) (fun c2 => ?_)
  · have hmM : m + 1 < M := by
      rcases Nat.lt_or_eq_of_le (show m + 1 ≤ M from hm) with h | h
      · exact h
      · rw [h, d1] at p1; omega
    (repeat (first | refine r_end ?_ | (refine r_op ?_; refine r_pure hT rfl rfl rfl rfl rfl rfl ?_) | refine gi_seq ?_ | refine gi_plain ?_ | refine gi_skip ?_ | refine gi_block ?_))
    refine r_idx (row := n.row) hT rfl rfl rfl rfl rfl rfl rfl rfl rfl rfl rfl rfl (nn _) (by simp [hn]) ?_
    (repeat (first | refine r_end ?_ | (refine r_op ?_; first | refine r_pure hT rfl rfl rfl rfl rfl rfl ?_ | refine r_load hT rfl rfl rfl rfl rfl rfl rfl rfl rfl ?_) | refine gi_inBlock ?_))
    refine next (m + 1) _ _ _ hmM (by omega) ⟨?_, ?_, rfl, trivial⟩ trivial trivial
    · show some (I n.p) = _
      rw [p1]
    · show some (I ((anc t i m : Nat) : Int)) = some (I (if m + 1 = 0 then -1 else ((anc t i (m + 1 - 1) : Nat) : Int)))
      rw [if_neg (by omega), show m + 1 - 1 = m by omega]
  · have hmM : M = m + 1 := by
      rcases Nat.lt_or_eq_of_le (show m + 1 ≤ M from hm) with h | h
      · have := d2 (m + 1) h; omega
      · exact h.symm
    rw [hmM, if_neg (by omega), show m + 1 - 1 = m by omega, hgd]
    clear next
    (repeat (first | (refine r_op ?_; refine r_pure hT rfl rfl rfl rfl rfl rfl ?_) | refine gi_seq ?_ | refine gi_plain ?_ | refine gi_block ?_ | refine gi_exit rfl ?_))
    refine r_idx (row := n.row) hT rfl rfl rfl rfl rfl rfl rfl rfl rfl rfl rfl rfl (nn _) (by simp [hn]) ?_
    (repeat (first | refine r_end ?_ | (refine r_op ?_; first | refine r_pure hT rfl rfl rfl rfl rfl rfl ?_ | refine r_load hT rfl rfl rfl rfl rfl rfl rfl rfl rfl ?_)))
    refine gi_eq (p := n.v.k) (q := 1) rfl (fun c3 => ?_) (fun c3 => ?_)
    · rw [if_pos c3]
      (repeat (refine gi_seq ?_))
      refine gi_drawM [] [(0, .p), (1, .p), (2, .p), (3, .p), (5, .p), (6, .p), (7, .p), (8, .p), (9, .p), (4, .t), (11, .p), (10, .t), (12, .p)] [0, 0, 3, 4, 8, 0, 0, 96, 128, 256, 512, 31, 4095] [0, 0, 3, 4, 8, 0, 0, 96, 128, 256, 512, 16, 1024] Kt.hm rfl (by kernel_rfl) (fun w1 K => ?_)
      (repeat ((refine r_op ?_; refine r_pure hT rfl rfl rfl rfl rfl rfl ?_)))
      refine r_idx (row := n.row) hT rfl rfl rfl rfl rfl rfl rfl rfl rfl rfl rfl rfl (nn _) (by simp [hn]) ?_
      (repeat ((refine r_op ?_; refine r_pure hT rfl rfl rfl rfl rfl rfl ?_)))
      refine r_idx (row := n.row) hT rfl rfl rfl rfl rfl rfl rfl rfl rfl rfl rfl rfl (nn _) (by simp [hn]) ?_
      (repeat (first | refine r_end ?_ | (refine r_op ?_; first | refine r_pure hT rfl rfl rfl rfl rfl rfl ?_ | refine r_load hT rfl rfl rfl rfl rfl rfl rfl rfl rfl ?_)))
      refine gi_retW hT Try.func69 rfl rfl [] rfl rfl rfl rfl ?_
      exact ⟨rfl, rfl⟩
    · rw [if_neg c3]
      (repeat (first | refine r_end ?_ | (refine r_op ?_; refine r_pure hT rfl rfl rfl rfl rfl rfl ?_) | refine gi_seq ?_ | refine gi_plain ?_))
      by_cases hm0 : m = 0
      · subst hm0
        rw [if_pos rfl]
        refine gi_known (d := 46) (b := true) rfl (by rw [if_pos rfl, ltB_eq]; rfl) ?_
        (repeat (first | (refine r_op ?_; refine r_pure hT rfl rfl rfl rfl rfl rfl ?_) | refine gi_seq ?_ | refine gi_plain ?_ | (refine gi_cnd ?_; first | refine gi_true rfl ?_ | refine gi_false rfl ?_)))
        refine r_idx (row := n.row) hT rfl rfl rfl rfl rfl rfl rfl rfl rfl rfl rfl rfl (nn _) (by simp [hn]) ?_
        (repeat (first | refine r_end ?_ | (refine r_op ?_; first | refine r_pure hT rfl rfl rfl rfl rfl rfl ?_ | refine r_load hT rfl rfl rfl rfl rfl rfl rfl rfl rfl ?_)))
        refine gi_retW hT Try.func69 rfl rfl [] rfl rfl rfl rfl ?_
        exact ⟨rfl, rfl⟩
      · obtain ⟨m1, rfl⟩ : ∃ m1, m = m1 + 1 := ⟨m - 1, by omega⟩
        have hm1 := hle m1 (by omega)
        obtain ⟨b, hb⟩ : ∃ n, t[anc t i m1]? = some n := ⟨_, List.getElem?_eq_getElem (by omega)⟩
        have hgb : t.getD (anc t i m1) zNd = b := by rw [List.getD_eq_getElem?_getD, hb]; rfl
        rw [if_neg (by omega), show m1 + 1 + 1 - 2 = m1 by omega, hgb]
        refine gi_known (d := 46) (b := false) rfl (by rw [if_neg hm0, ltB_eq]; exact decide_eq_false (by omega)) ?_
        (repeat (first | refine gi_seq ?_ | refine gi_skip ?_ | refine gi_inBlock ?_ | (refine gi_cnd ?_; first | refine gi_true rfl ?_ | refine gi_false rfl ?_)))
        refine gi_turn (d := 7) (y := I ((anc t i m1 : Nat) : Int)) rfl (by rw [if_neg hm0, show m1 + 1 - 1 = m1 by omega]) ?_
        refine gi_drawM [] [(0, .p), (1, .p), (2, .p), (3, .p), (5, .p), (6, .p), (7, .p), (8, .p), (4, .t), (10, .p), (9, .t), (11, .p)] [0, 0, 3, 4, 8, 0, 0, 96, 128, 256, 31, 2047] [0, 0, 3, 4, 8, 0, 0, 96, 128, 256, 16, 512] Kt.hm rfl (by kernel_rfl) (fun w1 K => ?_)
        (repeat ((refine r_op ?_; refine r_pure hT rfl rfl rfl rfl rfl rfl ?_)))
        refine r_idx (row := n.row) hT rfl rfl rfl rfl rfl rfl rfl rfl rfl rfl rfl rfl (nn _) (by simp [hn]) ?_
        (repeat ((refine r_op ?_; refine r_pure hT rfl rfl rfl rfl rfl rfl ?_)))
        refine r_idx (row := b.row) hT rfl rfl rfl rfl rfl rfl rfl rfl rfl rfl rfl rfl (nn _) (by simp [hb]) ?_
        (repeat (first | refine r_end ?_ | (refine r_op ?_; first | refine r_pure hT rfl rfl rfl rfl rfl rfl ?_ | refine r_load hT rfl rfl rfl rfl rfl rfl rfl rfl rfl ?_)))
        refine gi_retW hT Try.func69 rfl rfl [] rfl rfl rfl rfl ?_
        exact ⟨rfl, rfl⟩
end Go.Proofs.Ytmocggibcniggaa.Kt
namespace Go.Proofs.Ytmocggibcniggaa.Kt
open Go Kw Go.Proofs
attribute [local irreducible] Kw.GI Kw.GR Kw.FnR Kw.FnX
set_option maxHeartbeats 8000000
set_option maxRecDepth 100000
theorem IndexI_ok (l : List Int) (v : Int) (hl : l.length < 1000000) : FnR Try.prog 82 [rsN l, I v] (fun r S => (∃ n : Int, r = I n ∧ leB 0 n = l.any (fun x => decide (x = v))) ∧ S = []) := by
  refine fnR_intro (T := TT) (n := 19) Try.func82 rfl rfl rfl (fun w Z => ?_)
  (repeat (first | refine r_end ?_ | (refine r_op ?_; refine r_pure hT rfl rfl rfl rfl rfl rfl ?_) | refine gi_seq ?_ | refine gi_plain ?_ | refine gi_block ?_))
  refine gi_loop (σ := Nat) (fun j => [(8, I j), (7, I l.length), (1, I v), (0, rsN l)]) (fun _ => []) (fun _ => []) (fun j => j ≤ l.length ∧ (l.take j).any (fun x => decide (x = v)) = false) (fun j => l.length - j) 0 ⟨Nat.zero_le _, rfl⟩ ⟨rfl, by show some (I ((l.map nRow).length : Nat)) = _; rw [List.length_map], rfl, rfl, trivial⟩ trivial trivial (fun _ => rfl) (fun j hj next => ?_)
  obtain ⟨hj, hn⟩ := hj
  (repeat (first | refine r_end ?_ | (refine r_op ?_; refine r_pure hT rfl rfl rfl rfl rfl rfl ?_) | refine gi_seq ?_ | refine gi_plain ?_))
  refine gi_lt rfl (fun h3 => ?_) (fun h3 => ?_)
  · have hjl : j < l.length := by omega
    obtain ⟨x, hx⟩ : ∃ x, l[j]? = some x := ⟨_, List.getElem?_eq_getElem hjl⟩
    have hat := any_take (fun x => decide (x = v)) hx
    rw [hn, Bool.false_or] at hat
    (repeat (first | refine r_end ?_ | (refine r_op ?_; refine r_pure hT rfl rfl rfl rfl rfl rfl ?_) | refine gi_seq ?_ | refine gi_plain ?_ | refine gi_skip ?_ | refine gi_block ?_))
    refine r_idx (row := nRow x) hT rfl rfl rfl rfl rfl rfl rfl rfl rfl rfl rfl rfl (by omega) (by simp [hx]) ?_
    (repeat (first | refine r_end ?_ | (refine r_op ?_; first | refine r_pure hT rfl rfl rfl rfl rfl rfl ?_ | refine r_load hT rfl rfl rfl rfl rfl rfl rfl rfl rfl ?_)))
    refine gi_eq rfl (fun hvx => ?_) (fun hvx => ?_)
    · (repeat (first | refine r_end ?_ | (refine r_op ?_; refine r_pure hT rfl rfl rfl rfl rfl rfl ?_) | refine gi_seq ?_ | refine gi_plain ?_))
      refine gi_retW hT Try.func82 rfl rfl [] rfl rfl rfl rfl ?_
      refine ⟨⟨j, rfl, ?_⟩, rfl⟩
      have : l.any (fun x => decide (x = v)) = true := List.any_eq_true.2 ⟨x, List.mem_of_getElem? hx, decide_eq_true hvx.symm⟩
      rw [this, leB_eq]
      exact decide_eq_true (by omega)
    · (repeat (first | refine r_end ?_ | (refine r_op ?_; refine r_pure hT rfl rfl rfl rfl rfl rfl ?_) | refine gi_plain ?_ | refine gi_skip ?_ | refine gi_inBlock ?_))
      refine next (j + 1) _ _ _ ⟨hjl, by rw [hat]; exact decide_eq_false (fun e => hvx e.symm)⟩ (by omega) ⟨?_, rfl, rfl, rfl, trivial⟩ trivial trivial
      show some (I (wr .i64 ((j : Int) + 1))) = _
      rw [wr_i64 (by omega) (by omega)]
      simp
  · have hjl : j = l.length := by omega
    subst hjl
    rw [List.take_length] at hn
    (repeat (first | refine r_end ?_ | (refine r_op ?_; refine r_pure hT rfl rfl rfl rfl rfl rfl ?_) | refine gi_seq ?_ | refine gi_plain ?_ | refine gi_exit rfl ?_))
    refine gi_retW hT Try.func82 rfl rfl [] rfl rfl rfl rfl ?_
    refine ⟨⟨-1, rfl, ?_⟩, rfl⟩
    rw [hn, leB_eq]; rfl
theorem ContainsI_ok (l : List Int) (v : Int) (hl : l.length < 1000000) : FnR Try.prog 54 [rsN l, I v] (RB (l.any (fun x => decide (x = v)))) := by
  refine fnR_intro (T := TT) (n := 9) Try.func54 rfl rfl rfl (fun w Z => ?_)
  (repeat (first | refine r_end ?_ | (refine r_op ?_; refine r_pure hT rfl rfl rfl rfl rfl rfl ?_) | refine gi_seq ?_ | refine gi_plain ?_))
  refine r_call (IndexI_ok l v hl) rfl rfl rfl rfl rfl rfl rfl rfl Try.func82 rfl rfl rfl pIx ?_
  rintro r S1 ⟨⟨n, rfl, hn⟩, rfl⟩
  (repeat (first | refine r_end ?_ | (refine r_op ?_; refine r_pure hT rfl rfl rfl rfl rfl rfl ?_)))
  refine gi_retW hT Try.func54 rfl rfl [] rfl rfl rfl rfl ?_
  exact ⟨by rw [← hn], rfl⟩
/-- The nearer one, of those that are. -/
def nearI (a b : Int) : Int := if a < 0 then b else if b < 0 then a else if a ≤ b then a else b
theorem nearest_ok (a b : Int) : FnR Try.prog 56 [I a, I b] (RI (nearI a b)) := by
  refine fnR_intro (T := TT) (n := 16) Try.func56 rfl rfl rfl (fun w Z => ?_)
  (repeat (first | refine r_end ?_ | (refine r_op ?_; refine r_pure hT rfl rfl rfl rfl rfl rfl ?_) | refine gi_seq ?_ | refine gi_plain ?_ | refine gi_block ?_))
  refine gi_lt rfl (fun h3 => ?_) (fun h3 => ?_)
  · (repeat (first | refine r_end ?_ | (refine r_op ?_; refine r_pure hT rfl rfl rfl rfl rfl rfl ?_) | refine gi_seq ?_ | refine gi_plain ?_))
    refine gi_retW hT Try.func56 rfl rfl [] rfl rfl rfl rfl ?_
    exact ⟨by unfold nearI; rw [if_pos h3], rfl⟩
  (repeat (first | refine r_end ?_ | (refine r_op ?_; refine r_pure hT rfl rfl rfl rfl rfl rfl ?_) | refine gi_seq ?_ | refine gi_plain ?_))
  refine gi_lt rfl (fun h4 => ?_) (fun h4 => ?_)
  · (repeat (first | refine r_end ?_ | (refine r_op ?_; refine r_pure hT rfl rfl rfl rfl rfl rfl ?_) | refine gi_seq ?_ | refine gi_plain ?_))
    refine gi_retW hT Try.func56 rfl rfl [] rfl rfl rfl rfl ?_
    exact ⟨by unfold nearI; rw [if_neg (by omega), if_pos h4], rfl⟩
  (repeat (first | refine r_end ?_ | (refine r_op ?_; refine r_pure hT rfl rfl rfl rfl rfl rfl ?_) | refine gi_seq ?_ | refine gi_plain ?_ | refine gi_skip ?_ | refine gi_inBlock ?_))
  refine gi_retW hT Try.func56 rfl rfl [] rfl rfl rfl rfl ?_
  refine ⟨?_, rfl⟩
  unfold nearI
  rw [if_neg (by omega), if_neg (by omega)]
  show I _ = _
  congr 4
  unfold mm
  show (if b < a then b else a) = _
  rcases Int.lt_or_le b a with h | h
  · rw [if_pos h, if_neg (show ¬ a ≤ b by omega)]
  · rw [if_neg (show ¬ b < a by omega), if_pos h]
abbrev fsNd (t : List Nd) : AV := .r (.fs 5 (t.map Nd.row))
abbrev hTt (t : List Nd) : Option (TypeId × List AV) := some (37, [fsNd t])
theorem Backward_ok (t : List Nd) : FnX Try.prog 53 [fsNd t] [] [] (fun r H S => r = .fn 81 [.box 0 0] ∧ H = [hTt t] ∧ S = []) := by
  refine fnX_intro (T := TT) (n := 4) Try.func53 rfl rfl rfl (fun w X Z Y B => ?_)
  (repeat (first | refine r_end ?_ | (refine r_op ?_; first | refine r_pure hT rfl rfl rfl rfl rfl rfl ?_ | refine r_box rfl rfl rfl rfl rfl rfl rfl rfl rfl ?_) | refine gi_seq ?_ | refine gi_plain ?_))
  refine gi_retX hT Try.func53 rfl [0] [] rfl rfl rfl rfl rfl rfl rfl rfl ?_
  exact ⟨rfl, rfl, rfl⟩
end Go.Proofs.Ytmocggibcniggaa.Kt
namespace Go.Proofs.Ytmocggibcniggaa.Kt
open Go Kw Go.Proofs
attribute [local irreducible] Kw.GI Kw.GR Kw.FnR Kw.FnX
set_option maxHeartbeats 8000000
set_option maxRecDepth 100000
abbrev hVs (l : List Vt) : Option (TypeId × List AV) := some (25, [rsV l])
abbrev hSl (k : Nat) : Option (TypeId × List AV) := some (29, [.sl k])
abbrev hRm (m : Mp) : Option (TypeId × List AV) := some (31, [.r (.rs 2 (m.vs.map Vt.row)), .r (.rs 6 (m.es.map Eg.row)), .r (.rs 4 (m.sb.map Sb.row)), .r (.rs 4 (m.sn.map Sn.row)), .r (.rs 1 (m.wl.map nRow))])
abbrev H6 (t : List Nd) (m : Mp) (ms : List Vt) : Hp := [hTt t, hMf m, hVs ms, hSl 0, hSl 1, hTt t]
abbrev F5 : Fr := [(3, .box 0 0), (4, .box 1 0), (5, .box 2 0), (7, .box 3 0), (8, .box 4 0)]
/-- The iterator, if its rounds keep Inv. -/
theorem iter_ok {l : Nat} {r : Loop} {t : List Nd} {m : Mp} {ms : List Vt} (hl : t.length < 1000000) (hps : r.params.size = 2) (Inv : Nat → List Int → List Int → Prop) (o d : List Int) (h0 : Inv t.length o d)
    (hrd : ∀ i np o d, t[i]? = some np → Inv (i + 1) o d → RdSpec Try.prog l r [I i, np.av] F5 (H6 t m ms) [eN o, eN d] (fun H S => H = H6 t m ms ∧ ∃ o' d', S = [eN o', eN d'] ∧ Inv i o' d')) :
    ItSpec Try.prog 81 l r [yieldA l, .box 5 0] F5 (H6 t m ms) [eN o, eN d] (fun H S => H = H6 t m ms ∧ ∃ o' d', S = [eN o', eN d'] ∧ Inv 0 o' d') := by
  refine it_intro (T := TT) (n := 19) Try.func81 rfl rfl rfl (fun w X hX hwl hf hsn => ?_)
  obtain ⟨xX, xZ, xY, xnb, xB, xnv, xV⟩ := X
  obtain ⟨hX, hXv⟩ := hX
  have hX : xnb = 6 := hX
  have hXv : xnv = 0 := hXv
  subst hX
  subst hXv
  (repeat (first | refine r_end ?_ | (refine r_op ?_; first | refine r_pure hT rfl rfl rfl rfl rfl rfl ?_ | refine r_load hT rfl rfl rfl rfl rfl rfl rfl rfl rfl ?_) | refine gi_seq ?_ | refine gi_plain ?_ | refine gi_block ?_))
  refine gi_loop (σ := Nat × (List Int × List Int)) (fun s => [(3, I ((s.1 : Int) - 1)), (0, yieldA l), (1, .box 5 0)]) (fun _ => H6 t m ms) (fun s => [eN s.2.1, eN s.2.2]) (fun s => s.1 ≤ t.length ∧ Inv s.1 s.2.1 s.2.2) (fun s => s.1) (t.length, (o, d)) ⟨Nat.le_refl _, h0⟩ ⟨?_, rfl, rfl, trivial⟩ ⟨rfl, rfl, rfl, rfl, rfl, rfl, trivial⟩ ⟨rfl, rfl, trivial⟩ (fun _ => rfl) (fun s hs next => ?_)
  · show some (I (wr .i64 ((((t.map Nd.row).length : Nat) : Int) - 1))) = _
    rw [List.length_map, wr_i64 (by omega) (by omega)]
  obtain ⟨i, o1, d1⟩ := s
  obtain ⟨hi, hI⟩ := hs
  simp only at hi hI
  (repeat (first | refine r_end ?_ | (refine r_op ?_; refine r_pure hT rfl rfl rfl rfl rfl rfl ?_) | refine gi_seq ?_ | refine gi_plain ?_))
  refine gi_le (p := 0) (q := (i : Int) - 1) rfl (fun h3 => ?_) (fun h3 => ?_)
  · obtain ⟨j, rfl⟩ : ∃ j, i = j + 1 := ⟨i - 1, by omega⟩
    obtain ⟨x, hx⟩ : ∃ x, t[j]? = some x := ⟨_, List.getElem?_eq_getElem (by omega)⟩
    have hj : (((j + 1 : Nat) : Int) - 1) = j := by omega
    refine gi_turn (d := 3) (y := I (j : Int)) rfl (by rw [hj]) ?_
    (repeat (first | (refine r_op ?_; first | refine r_pure hT rfl rfl rfl rfl rfl rfl ?_ | refine r_load hT rfl rfl rfl rfl rfl rfl rfl rfl rfl ?_) | refine gi_seq ?_ | refine gi_plain ?_ | refine gi_skip ?_ | refine gi_block ?_))
    refine r_thaw 13 rfl ?_
    refine r_idx (row := x.row) hT rfl rfl rfl rfl rfl rfl rfl rfl rfl rfl rfl rfl (by omega) (by simp [hx]) ?_
    (repeat ((refine r_op ?_; refine r_load hT rfl rfl rfl rfl rfl rfl rfl rfl rfl ?_)))
    refine r_yield (l := l) (r := r) (xs := [I (j : Int), x.av]) (Fs := F5) (Post := fun H S => H = H6 t m ms ∧ ∃ o' d', S = [eN o', eN d'] ∧ Inv j o' d') rfl rfl rfl rfl rfl rfl rfl rfl rfl (by rw [hps]; rfl) hwl hf hsn rfl (hrd j x o1 d1 hx hI) ?_
    rintro H1 S1 ⟨rfl, o2, d2, rfl, hI2⟩
    (repeat (first | refine r_end ?_ | (refine r_op ?_; refine r_pure hT rfl rfl rfl rfl rfl rfl ?_)))
    refine gi_known (d := 18) (b := false) rfl (by rw [notB_eq]; rfl) ?_
    (repeat (first | refine r_end ?_ | (refine r_op ?_; refine r_pure hT rfl rfl rfl rfl rfl rfl ?_) | refine gi_plain ?_ | refine gi_skip ?_ | refine gi_inBlock ?_ | (refine gi_cnd ?_; first | refine gi_true rfl ?_ | refine gi_false rfl ?_)))
    refine next (j, (o2, d2)) _ _ _ ⟨by simp only; omega, hI2⟩ (by simp only; omega) ⟨?_, rfl, rfl, trivial⟩ ⟨rfl, rfl, rfl, rfl, rfl, rfl, trivial⟩ ⟨rfl, rfl, trivial⟩
    show some (I (wr .i64 ((j : Int) - 1))) = _
    rw [wr_i64 (by omega) (by omega)]
  · have hi0 : i = 0 := by omega
    subst hi0
    (repeat (refine gi_exit rfl ?_))
    refine gi_finX hT Try.func81 rfl [0,1,2,3,4,5] [0,1] rfl rfl rfl rfl rfl rfl rfl rfl ?_
    exact ⟨rfl, _, _, rfl, hI⟩
end Go.Proofs.Ytmocggibcniggaa.Kt
namespace Go.Proofs.Ytmocggibcniggaa.Kt
open Go Kw Go.Proofs
set_option maxHeartbeats 4000000
set_option maxRecDepth 100000
/-! ### how far each Node is from a member: the law -/
def isW (w : List Int) (n : Nd) : Bool := decide (n.v.k = 1) && w.any (fun x => decide (x = n.v.i))
def isMb (ms : List Vt) (n : Nd) : Bool := ms.any (fun x => decide (x = n.v))
def cK (q n : Nd) : Int := if n.v.k = 1 ∧ q.v.k = 1 then 1 else 0
def cP (q : Nd) : Int := if q.v.k = 1 then 0 else 1
theorem cK_b (q n : Nd) : 0 ≤ cK q n ∧ cK q n ≤ 1 := by unfold cK; split <;> omega
theorem cP_b (q : Nd) : 0 ≤ cP q ∧ cP q ≤ 1 := by unfold cP; split <;> omega
theorem cKP_b (q n : Nd) : cK q n + cP q ≤ 1 := by
  unfold cK cP
  by_cases h : q.v.k = 1
  · rw [if_pos h]; split <;> omega
  · rw [if_neg h, if_neg (fun h' => h h'.2)]; omega
structure Val (t : List Nd) (w : List Int) (ms : List Vt) (o : List Int) (i : Nat) (n : Nd) (x : Int) : Prop where
  wi : isW w n = true → x = 0
  me : isW w n = false → isMb ms n = true → x = 1
  le : isW w n = false → isMb ms n = false → ∀ k m y, i < k → t[k]? = some m → m.p = i → o[k]? = some y → 0 ≤ y → 0 ≤ x ∧ x ≤ y + (cK n m + cP n)
  or : isW w n = false → isMb ms n = false → 0 ≤ x → ∃ k m y, i < k ∧ t[k]? = some m ∧ m.p = i ∧ o[k]? = some y ∧ 0 ≤ y ∧ x = y + (cK n m + cP n)
structure RInv (t : List Nd) (w : List Int) (ms : List Vt) (i : Nat) (o d : List Int) : Prop where
  lo : o.length = t.length
  ld : d.length = t.length
  rng : ∀ (k : Nat) x, i ≤ k → o[k]? = some x → -1 ≤ x ∧ x + k ≤ t.length
  at_ : ∀ k n x, i ≤ k → t[k]? = some n → o[k]? = some x → Val t w ms o k n x
  dlo : ∀ p x, p < i → d[p]? = some x → -1 ≤ x
  dle : ∀ (p : Nat) np x k m y, p < i → t[p]? = some np → d[p]? = some x → i ≤ k → t[k]? = some m → m.p = p → o[k]? = some y → 0 ≤ y → 0 ≤ x ∧ x ≤ y + cK np m
  dor : ∀ (p : Nat) np x, p < i → t[p]? = some np → d[p]? = some x → 0 ≤ x → ∃ k m y, i ≤ k ∧ t[k]? = some m ∧ m.p = p ∧ o[k]? = some y ∧ 0 ≤ y ∧ x = y + cK np m
theorem RInv.zero (t : List Nd) (w : List Int) (ms : List Vt) : RInv t w ms t.length (List.replicate t.length 0) (List.replicate t.length (-1)) where
  lo := by simp
  ld := by simp
  rng := fun k x hk hx => by have := (List.getElem?_eq_some_iff.1 hx).1; rw [List.length_replicate] at this; omega
  at_ := fun k n x hk hn _ => by have := (List.getElem?_eq_some_iff.1 hn).1; omega
  dlo := fun p x hp hx => by
    have := List.mem_of_getElem? hx
    rw [List.mem_replicate] at this
    omega
  dle := fun p np x k m y hp _ _ hk hm => by have := (List.getElem?_eq_some_iff.1 hm).1; omega
  dor := fun p np x hp _ hx h0 => by
    have := List.mem_of_getElem? hx
    rw [List.mem_replicate] at this
    omega
/-- What a Node's distance is, of what its kids told. -/
def valR (w : List Int) (ms : List Vt) (n : Nd) (e : Int) : Int := if isW w n = true then 0 else if isMb ms n = true then 1 else if n.v.k ≠ 1 ∧ 0 ≤ e then e + 1 else e
theorem getS {l : List Int} {i k : Nat} {v x : Int} (hi : i < l.length) (h : (l.set i v)[k]? = some x) : (k = i ∧ x = v) ∨ (k ≠ i ∧ l[k]? = some x) := by
  by_cases e : k = i
  · subst e
    rw [List.getElem?_set_self hi] at h
    exact .inl ⟨rfl, (Option.some.inj h).symm⟩
  · rw [List.getElem?_set_ne (fun h => e h.symm)] at h
    exact .inr ⟨e, h⟩
section
variable {t : List Nd} {w : List Int} {ms : List Vt} {i : Nat} {o d : List Int} {n : Nd} {e : Int}
theorem RInv.eup (h : RInv t w ms (i + 1) o d) (hn : t[i]? = some n) (he : d[i]? = some e) : -1 ≤ e ∧ e + cP n + i ≤ t.length := by
  have h1 := h.dlo i e (by omega) he
  have hl := (List.getElem?_eq_some_iff.1 hn).1
  refine ⟨h1, ?_⟩
  have hb := cP_b n
  by_cases h0 : 0 ≤ e
  · obtain ⟨k, m, y, hk, hm, hp, hy, hy0, rfl⟩ := h.dor i n e (by omega) hn he h0
    have h2 := (h.rng k y hk hy).2
    have := cKP_b n m
    omega
  · omega
theorem RInv.vb (h : RInv t w ms (i + 1) o d) (hn : t[i]? = some n) (he : d[i]? = some e) : -1 ≤ valR w ms n e ∧ valR w ms n e + i ≤ t.length := by
  obtain ⟨h1, h2⟩ := h.eup hn he
  have hl := (List.getElem?_eq_some_iff.1 hn).1
  have hb := cP_b n
  unfold valR
  split
  · omega
  split
  · omega
  split
  · rename_i h3
    have : cP n = 1 := if_neg h3.1
    omega
  · omega
theorem RInv.val (h : RInv t w ms (i + 1) o d) (hn : t[i]? = some n) (he : d[i]? = some e) : Val t w ms (o.set i (valR w ms n e)) i n (valR w ms n e) := by
  have hl := (List.getElem?_eq_some_iff.1 hn).1
  have hlo : i < o.length := by rw [h.lo]; exact hl
  have hd := h.dlo i e (by omega) he
  have key : isW w n = false → isMb ms n = false → valR w ms n e = if 0 ≤ e then e + cP n else e := fun h1 h2 => by
    unfold valR
    rw [if_neg (by rw [h1]; decide), if_neg (by rw [h2]; decide)]
    unfold cP
    by_cases hk : n.v.k = 1
    · rw [if_neg (fun hh => hh.1 hk), if_pos hk]; split <;> omega
    · rw [if_neg hk]
      by_cases h0 : 0 ≤ e
      · rw [if_pos ⟨hk, h0⟩, if_pos h0]
      · rw [if_neg (fun hh => h0 hh.2), if_neg h0]
  refine ⟨fun h1 => by unfold valR; rw [if_pos h1], fun h1 h2 => by unfold valR; rw [if_neg (by rw [h1]; decide), if_pos h2], fun h1 h2 k m y hk hm hp hy hy0 => ?_, fun h1 h2 hx => ?_⟩
  · rcases getS hlo hy with ⟨hk', _⟩ | ⟨_, hy⟩
    · omega
    obtain ⟨q1, q2⟩ := h.dle i n e k m y (by omega) hn he (by omega) hm hp hy hy0
    rw [key h1 h2, if_pos q1]
    have := cP_b n
    omega
  · rw [key h1 h2] at hx ⊢
    by_cases h0 : 0 ≤ e
    · obtain ⟨k, m, y, hk, hm, hp, hy, hy0, rfl⟩ := h.dor i n e (by omega) hn he h0
      refine ⟨k, m, y, by omega, hm, hp, by rw [List.getElem?_set_ne (by omega)]; exact hy, hy0, ?_⟩
      rw [if_pos h0]; omega
    · rw [if_neg h0] at hx; omega
theorem Val.keep {o' : List Int} {k : Nat} {x : Int} (hv : Val t w ms o k n x) (h : ∀ j, k < j → o'[j]? = o[j]?) : Val t w ms o' k n x :=
  ⟨hv.wi, hv.me, fun h1 h2 j m y hj hm hp hy hy0 => hv.le h1 h2 j m y hj hm hp (by rw [← h j hj]; exact hy) hy0, fun h1 h2 h0 => by
    obtain ⟨j, m, y, hj, hm, hp, hy, q⟩ := hv.or h1 h2 h0
    exact ⟨j, m, y, hj, hm, hp, by rw [h j hj]; exact hy, q⟩⟩
/-- A Node whose parent hears nothing. -/
theorem RInv.skip (h : RInv t w ms (i + 1) o d) (hn : t[i]? = some n) (he : d[i]? = some e) (hs : n.p < 0 ∨ i ≤ n.p ∨ valR w ms n e < 0) : RInv t w ms i (o.set i (valR w ms n e)) d := by
  have hl := (List.getElem?_eq_some_iff.1 hn).1
  have hlo : i < o.length := by rw [h.lo]; exact hl
  have hv := h.val hn he
  have hb := h.vb hn he
  refine ⟨by rw [List.length_set]; exact h.lo, h.ld, fun k x hk hx => ?_, fun k m x hk hm hx => ?_, fun p x hp => h.dlo p x (by omega), fun p np x k m y hp hnp hx hk hm hmp hy hy0 => ?_, fun p np x hp hnp hx h0 => ?_⟩
  · rcases getS hlo hx with ⟨rfl, rfl⟩ | ⟨hne, hx⟩
    · exact hb
    · exact h.rng k x (by omega) hx
  · rcases getS hlo hx with ⟨rfl, rfl⟩ | ⟨hne, hx⟩
    · rw [hn] at hm; cases hm; exact hv
    · exact (h.at_ k m x (by omega) hm hx).keep (fun j hj => List.getElem?_set_ne (by omega))
  · rcases getS hlo hy with ⟨rfl, rfl⟩ | ⟨hne, hy⟩
    · rw [hn] at hm; cases hm; omega
    · exact h.dle p np x k m y (by omega) hnp hx (by omega) hm hmp hy hy0
  · obtain ⟨k, m, y, hk, hm, hmp, hy, q⟩ := h.dor p np x (by omega) hnp hx h0
    exact ⟨k, m, y, by omega, hm, hmp, by rw [List.getElem?_set_ne (by omega)]; exact hy, q⟩
theorem nearI_le {a b : Int} (hb : 0 ≤ b) (ha : -1 ≤ a) : 0 ≤ nearI a b ∧ nearI a b ≤ b ∧ (0 ≤ a → nearI a b ≤ a) ∧ (nearI a b = b ∨ (0 ≤ a ∧ nearI a b = a)) := by
  unfold nearI
  split
  · omega
  · split
    · omega
    · split <;> omega
/-- A Node that tells its parent. -/
theorem RInv.tell (h : RInv t w ms (i + 1) o d) (hn : t[i]? = some n) (he : d[i]? = some e) {p : Nat} {q : Nd} {f : Int} (hp : n.p = p) (hpi : p < i) (hq : t[p]? = some q) (hf : d[p]? = some f) (h0 : 0 ≤ valR w ms n e) : RInv t w ms i (o.set i (valR w ms n e)) (d.set p (nearI f (valR w ms n e + cK q n))) := by
  have hl := (List.getElem?_eq_some_iff.1 hn).1
  have hlo : i < o.length := by rw [h.lo]; exact hl
  have hld : p < d.length := by rw [h.ld]; omega
  have hv := h.val hn he
  have hb := h.vb hn he
  have hc := cK_b q n
  have hf1 := h.dlo p f (by omega) hf
  obtain ⟨n1, n2, n3, n4⟩ := nearI_le (a := f) (b := valR w ms n e + cK q n) (by omega) hf1
  refine ⟨by rw [List.length_set]; exact h.lo, by rw [List.length_set]; exact h.ld, fun k x hk hx => ?_, fun k m x hk hm hx => ?_, fun p' x hp' hx => ?_, fun p' np x k m y hp' hnp hx hk hm hmp hy hy0 => ?_, fun p' np x hp' hnp hx hx0 => ?_⟩
  · rcases getS hlo hx with ⟨rfl, rfl⟩ | ⟨hne, hx⟩
    · exact hb
    · exact h.rng k x (by omega) hx
  · rcases getS hlo hx with ⟨rfl, rfl⟩ | ⟨hne, hx⟩
    · rw [hn] at hm; cases hm; exact hv
    · exact (h.at_ k m x (by omega) hm hx).keep (fun j hj => List.getElem?_set_ne (by omega))
  · rcases getS hld hx with ⟨rfl, rfl⟩ | ⟨hne, hx⟩
    · omega
    · exact h.dlo p' x (by omega) hx
  · rcases getS hlo hy with ⟨rfl, rfl⟩ | ⟨hne, hy⟩
    · rw [hn] at hm; cases hm
      have hpp : p' = p := by omega
      subst hpp
      rw [hq] at hnp; cases hnp
      rcases getS hld hx with ⟨_, rfl⟩ | ⟨hne, _⟩
      · exact ⟨n1, n2⟩
      · exact absurd rfl hne
    · rcases getS hld hx with ⟨rfl, rfl⟩ | ⟨hne', hx⟩
      · obtain ⟨q1, q2⟩ := h.dle p' np f k m y (by omega) hnp hf (by omega) hm hmp hy hy0
        have := n3 q1
        omega
      · exact h.dle p' np x k m y (by omega) hnp hx (by omega) hm hmp hy hy0
  · rcases getS hld hx with ⟨rfl, rfl⟩ | ⟨hne', hx⟩
    · rw [hq] at hnp; cases hnp
      rcases n4 with n4 | ⟨f0, n4⟩
      · exact ⟨i, n, valR w ms n e, Nat.le_refl _, hn, hp, List.getElem?_set_self hlo, h0, n4⟩
      · obtain ⟨k, m, y, hk, hm, hmp, hy, hy0, q⟩ := h.dor p' _ f (by omega) hq hf f0
        exact ⟨k, m, y, by omega, hm, hmp, by rw [List.getElem?_set_ne (by omega)]; exact hy, hy0, by rw [n4]; exact q⟩
    · obtain ⟨k, m, y, hk, hm, hmp, hy, q⟩ := h.dor p' np x (by omega) hnp hx hx0
      exact ⟨k, m, y, by omega, hm, hmp, by rw [List.getElem?_set_ne (by omega)]; exact hy, q⟩
end
/-- What Reach answers. -/
structure Rch (t : List Nd) (w : List Int) (ms : List Vt) (o : List Int) : Prop where
  lo : o.length = t.length
  rng : ∀ (k : Nat) x, o[k]? = some x → -1 ≤ x ∧ x + k ≤ t.length
  at_ : ∀ k n x, t[k]? = some n → o[k]? = some x → Val t w ms o k n x
theorem RInv.rch {t : List Nd} {w : List Int} {ms : List Vt} {o d : List Int} (h : RInv t w ms 0 o d) : Rch t w ms o :=
  ⟨h.lo, fun k x => h.rng k x (Nat.zero_le _), fun k n x => h.at_ k n x (Nat.zero_le _)⟩
end Go.Proofs.Ytmocggibcniggaa.Kt
namespace Go.Proofs.Ytmocggibcniggaa.Kt
open Go Kw Go.Proofs
attribute [local irreducible] Kw.GI Kw.GR Kw.FnR Kw.FnX
set_option maxHeartbeats 8000000
set_option maxRecDepth 100000
theorem F5_box {d : Nat} {x : AV} (h : Fr.get F5 d = some x) : ∃ i off, x = .box i off := by
  simp only [Fr.get] at h
  repeat' (split at h)
  all_goals first | (cases h; exact ⟨_, _, rfl⟩) | (cases h)
theorem pBk {t : List Nd} : ∀ r H1 S1, (r = .fn 81 [.box 0 0] ∧ H1 = [hTt t] ∧ S1 = []) → stA r = true ∧ StH H1 ∧ StS S1 := by
  rintro r H S ⟨rfl, rfl, rfl⟩
  refine ⟨rfl, fun e he t cs hs => ?_, fun e he => by cases he⟩
  simp only [List.mem_cons, List.not_mem_nil, or_false] at he
  rcases he with rfl
  cases hs
  show (stLL (t.map Nd.row) && true) = true
  rw [stLL_Nd]; rfl
theorem it_gen {P : Program} {g : FuncId} {l : Nat} {r0 : Loop} {xs : List AV} {Fs : Fr} {H : Hp} {S : Sp} {Post : Hp → Sp → Prop} (h : ∀ r, r = r0 → ItSpec P g l r xs Fs H S Post) : ItSpec P g l r0 xs Fs H S Post := h r0 rfl
theorem rd_intro2 {P : Program} {T : Tab} {l : Nat} {r : Loop} {fn : Func} {n p0 p1 : Nat} {x0 x1 : AV} {Fs : Fr} {H : Hp} {S : Sp} {Post : Hp → Sp → Prop} {A B : Code} {f : FuncId} (hr : r = ready r) (hps : r.params = #[p0, p1]) (hn : r.tmps.size = n) (h0 : Nat.blt p0 n = true) (h1 : Nat.blt p1 n = true) (hA : r.assign = A) (hB : r.body = B) (hf : r.fn = f)
    (h : ∀ (w : World) (X : Org), X.nb = H.length ∧ X.nv = 0 → w.heap[l]? = some (.loop r) → Far w X l → GI ⟨P, T, f, fn, n, w, X, RetY w X Post, some l, false, []⟩ [.code A, .beginRound, .code B] ((p1, x1) :: (p0, x0) :: Fs) H S) : RdSpec P l r [x0, x1] Fs H S Post := by
  subst hA hB hf
  exact rd_intro hr hps hn h0 h1 h
theorem map_repl (n : Nat) (x : Int) : List.replicate n (nRow x) = (List.replicate n x).map nRow := by rw [List.map_replicate]
abbrev H7 (t : List Nd) (m : Mp) (ms : List Vt) (n : Nd) : Hp := [hTt t, hMf m, hVs ms, hSl 0, hSl 1, hTt t, hNd n]
theorem valR_w {w : List Int} {ms : List Vt} {n : Nd} {e : Int} (h : isW w n = true) : valR w ms n e = 0 := by unfold valR; rw [if_pos h]
theorem valR_m {w : List Int} {ms : List Vt} {n : Nd} {e : Int} (h : isW w n = false) (h2 : isMb ms n = true) : valR w ms n e = 1 := by unfold valR; rw [if_neg (by rw [h]; decide), if_pos h2]
theorem valR_r {w : List Int} {ms : List Vt} {n : Nd} {e : Int} (h : isW w n = false) (h2 : isMb ms n = false) (h3 : n.v.k = 1) : valR w ms n e = e := by unfold valR; rw [if_neg (by rw [h]; decide), if_neg (by rw [h2]; decide), if_neg (fun hh => hh.1 h3)]
theorem valR_n {w : List Int} {ms : List Vt} {n : Nd} {e : Int} (h : isW w n = false) (h2 : isMb ms n = false) (h3 : ¬ 0 ≤ e) : valR w ms n e = e := by unfold valR; rw [if_neg (by rw [h]; decide), if_neg (by rw [h2]; decide), if_neg (fun hh => h3 hh.2)]
theorem valR_p {w : List Int} {ms : List Vt} {n : Nd} {e : Int} (h : isW w n = false) (h2 : isMb ms n = false) (h3 : n.v.k ≠ 1) (h4 : 0 ≤ e) : valR w ms n e = e + 1 := by unfold valR; rw [if_neg (by rw [h]; decide), if_neg (by rw [h2]; decide), if_pos ⟨h3, h4⟩]
theorem pReach_ok (t : List Nd) (m : Mp) (ms : List Vt) (hl : t.length < 1000000) (hw : m.wl.length < 1000000) (hms : ms.length < 1000000) : FnX Try.prog 23 [fsNd t, avMf m, rsV ms] [] [] (fun r H S => r = .sl 0 ∧ H = [] ∧ ∃ o, S = [eN o] ∧ Rch t m.wl ms o) := by
  refine fnX_intro (T := TT) (n := 107) Try.func23 rfl rfl rfl (fun w X Z Y B => ?_)
  (repeat (first | refine r_end ?_ | (refine r_op ?_; first | refine r_pure hT rfl rfl rfl rfl rfl rfl ?_ | refine r_load hT rfl rfl rfl rfl rfl rfl rfl rfl rfl ?_ | refine r_box rfl rfl rfl rfl rfl rfl rfl rfl rfl ?_) | refine gi_seq ?_ | refine gi_plain ?_))
  refine r_make (n := (t.length : Int)) hT rfl rfl rfl rfl rfl rfl rfl (by show some (I (((t.map Nd.row).length : Nat) : Int)) = _; rw [List.length_map]) (by show some (I (((t.map Nd.row).length : Nat) : Int)) = _; rw [List.length_map]) rfl rfl rfl rfl rfl rfl (by omega) ⟨by rw [Int.toNat_natCast]; simp only [maxLen]; omega, by rw [Int.toNat_natCast]; show 8 * t.length ≤ _; omega⟩ ?_
  (repeat (first | refine r_end ?_ | (refine r_op ?_; first | refine r_pure hT rfl rfl rfl rfl rfl rfl ?_ | refine r_load hT rfl rfl rfl rfl rfl rfl rfl rfl rfl ?_ | refine r_store hT rfl rfl rfl rfl rfl rfl rfl rfl rfl rfl ?_ | refine r_alloc hT rfl rfl rfl rfl rfl rfl rfl rfl rfl ?_) | refine gi_seq ?_ | refine gi_plain ?_))
  refine r_make (n := (t.length : Int)) hT rfl rfl rfl rfl rfl rfl rfl (by show some (I (((t.map Nd.row).length : Nat) : Int)) = _; rw [List.length_map]) (by show some (I (((t.map Nd.row).length : Nat) : Int)) = _; rw [List.length_map]) rfl rfl rfl rfl rfl rfl (by omega) ⟨by rw [Int.toNat_natCast]; simp only [maxLen]; omega, by rw [Int.toNat_natCast]; show 8 * t.length ≤ _; omega⟩ ?_
  (repeat (first | refine r_end ?_ | (refine r_op ?_; first | refine r_pure hT rfl rfl rfl rfl rfl rfl ?_ | refine r_load hT rfl rfl rfl rfl rfl rfl rfl rfl rfl ?_ | refine r_store hT rfl rfl rfl rfl rfl rfl rfl rfl rfl rfl ?_ | refine r_alloc hT rfl rfl rfl rfl rfl rfl rfl rfl rfl ?_) | refine gi_seq ?_ | refine gi_plain ?_ | refine gi_block ?_))
  have hrep : List.replicate (t.length : Int).toNat (zRow [Value.int IntKind.i64 0]) = (List.replicate t.length (0 : Int)).map nRow := by rw [Int.toNat_natCast, List.map_replicate]; rfl
  refine gi_loop (σ := Nat × List Int) (fun s => [(22, I (s.1 : Int)), (21, I (t.length : Int)), (3, .box 0 0), (4, .box 1 0), (5, .box 2 0), (7, .box 3 0), (8, .box 4 0)]) (fun _ => [hTt t, hMf m, hVs ms, hSl 0, hSl 1]) (fun s => [eN (List.replicate t.length 0), eN s.2]) (fun s => s.1 ≤ t.length ∧ s.2.length = t.length ∧ ∀ k, k < s.1 → s.2[k]? = some (-1)) (fun s => t.length - s.1) (0, List.replicate t.length 0) ⟨Nat.zero_le _, by simp, fun k hk => absurd hk (Nat.not_lt_zero _)⟩ ⟨rfl, ?_, rfl, rfl, rfl, rfl, rfl, trivial⟩ ⟨rfl, rfl, rfl, rfl, rfl, trivial⟩ ⟨?_, ?_, trivial⟩ (fun _ => rfl) (fun s hs next => ?_)
  · show some (I (((List.replicate (t.length : Int).toNat (zRow [Value.int IntKind.i64 0])).length : Nat) : Int)) = _
    rw [hrep, List.length_map, List.length_replicate]
  · show eN (List.replicate t.length 0) = some (⟨_, _, List.replicate (t.length : Int).toNat (zRow [Value.int IntKind.i64 0]), _⟩ : SE)
    rw [hrep]
  · show eN (List.replicate t.length 0) = some (⟨_, _, List.replicate (t.length : Int).toNat (zRow [Value.int IntKind.i64 0]), _⟩ : SE)
    rw [hrep]
  obtain ⟨j, d⟩ := s
  obtain ⟨hj, hld, hk⟩ := hs
  simp only at hj hld hk
  (repeat (first | refine r_end ?_ | (refine r_op ?_; refine r_pure hT rfl rfl rfl rfl rfl rfl ?_) | refine gi_seq ?_ | refine gi_plain ?_))
  refine gi_lt (p := (j : Int)) rfl (fun h3 => ?_) (fun h3 => ?_)
  · have hjl' : j + 1 ≤ t.length := by omega
    have hjl : j < d.length := by omega
    (repeat (first | refine r_end ?_ | (refine r_op ?_; first | refine r_pure hT rfl rfl rfl rfl rfl rfl ?_ | refine r_load hT rfl rfl rfl rfl rfl rfl rfl rfl rfl ?_) | refine gi_seq ?_ | refine gi_plain ?_ | refine gi_skip ?_ | refine gi_block ?_))
    refine r_idxS hT rfl rfl rfl rfl rfl rfl rfl rfl rfl rfl rfl rfl rfl (by show (0 : Int) ≤ (j : Int); omega) (by show ((j : Nat) : Int).toNat < (d.map nRow).length; rw [List.length_map]; omega) ?_
    skip
    refine r_storeS (row := nRow d[j]) hT rfl rfl rfl rfl rfl rfl rfl rfl rfl rfl rfl rfl rfl (by show (List.map nRow _)[((j : Nat) : Int).toNat]? = _; rw [Int.toNat_natCast, List.getElem?_map, List.getElem?_eq_getElem hjl]; rfl) ?_
    (repeat (first | refine r_end ?_ | (refine r_op ?_; refine r_pure hT rfl rfl rfl rfl rfl rfl ?_) | refine gi_plain ?_ | refine gi_inBlock ?_))
    refine next (j + 1, d.set j (-1)) _ _ _ ⟨hjl', by rw [List.length_set]; exact hld, fun k hkj => ?_⟩ (by simp only; omega) ⟨?_, rfl, rfl, rfl, rfl, rfl, rfl, trivial⟩ ⟨rfl, rfl, rfl, rfl, rfl, trivial⟩ ⟨rfl, ?_, trivial⟩
    · by_cases e : k = j
      · subst e; exact List.getElem?_set_self hjl
      · rw [List.getElem?_set_ne (fun h => e h.symm)]; exact hk k (by omega)
    · show some (I (wr .i64 ((j : Int) + 1))) = _
      rw [wr_i64 (by omega) (by omega)]
      simp
    · show eN (d.set j (-1)) = some (⟨_, _, (d.map nRow).set ((j : Nat) : Int).toNat (nRow (-1)), _⟩ : SE)
      rw [Int.toNat_natCast, ← List.map_set]
  have hd : d = List.replicate t.length (-1) := by
    refine List.eq_replicate_iff.2 ⟨hld, fun b hb => ?_⟩
    obtain ⟨k, hkb⟩ := List.mem_iff_getElem?.1 hb
    have := (List.getElem?_eq_some_iff.1 hkb).1
    rw [hk k (by omega)] at hkb
    exact (Option.some.inj hkb).symm
  subst hd
  (repeat (first | (refine r_op ?_; refine r_load hT rfl rfl rfl rfl rfl rfl rfl rfl rfl ?_) | refine gi_seq ?_ | refine gi_plain ?_ | refine gi_exit rfl ?_))
  refine r_callX [] [] (Backward_ok t) rfl rfl rfl rfl rfl rfl Try.func53 rfl rfl rfl rfl rfl rfl rfl pBk ?_
  rintro r H1 S1 ⟨rfl, rfl, rfl⟩
  (repeat (first | refine r_end ?_ | refine gi_block ?_))
  refine gi_range (g := 81) (cap := [.box 5 0]) (Fs := F5) (Post := fun H S => H = H6 t m ms ∧ ∃ o' d', S = [eN o', eN d'] ∧ RInv t m.wl ms 0 o' d') rfl rfl rfl rfl rfl rfl (fun d x hx => ⟨SubF_get (F' := F5) ⟨rfl, rfl, rfl, rfl, rfl, trivial⟩ hx, F5_box hx⟩) rfl rfl (fun l tmps D htm => ?_) ?_
  · refine it_gen (fun r hr => ?_)
    have hrr : r = ready r := by subst hr; rfl
    have hst : r.state = .ready := by subst hr; rfl
    refine iter_ok hl (by subst hr; rfl) (fun i => RInv t m.wl ms i) _ _ (RInv.zero t m.wl ms) (fun i np o d hnp hI => ?_)
    refine rd_intro2 (T := TT) (n := 107) (fn := Try.f23) (f := 23) (p0 := 31) (p1 := 32) hrr (by subst hr; rfl) (by subst hr; exact htm) rfl rfl (congrArg Loop.assign hr) (congrArg Loop.body hr) (by subst hr; rfl) (fun wv X1 hX1 hwl1 hf1 => ?_)
    clear hr
    obtain ⟨xX, xZ, xY, xnb, xB, xnv, xV⟩ := X1
    obtain ⟨hX1, hX1v⟩ := hX1
    have hX1 : xnb = 6 := hX1
    have hX1v : xnv = 0 := hX1v
    subst hX1
    subst hX1v
    (repeat (first | refine r_end ?_ | (refine r_op ?_; first | refine r_pure hT rfl rfl rfl rfl rfl rfl ?_ | refine r_store hT rfl rfl rfl rfl rfl rfl rfl rfl rfl rfl ?_ | refine r_alloc hT rfl rfl rfl rfl rfl rfl rfl rfl rfl ?_) | refine gi_seq ?_ | refine gi_plain ?_))
    refine gi_begin (l := l) (r := r) rfl hwl1 hst hf1 ?_
    (repeat (first | (refine r_op ?_; first | refine r_pure hT rfl rfl rfl rfl rfl rfl ?_ | refine r_load hT rfl rfl rfl rfl rfl rfl rfl rfl rfl ?_) | refine gi_seq ?_ | refine gi_plain ?_ | refine gi_block ?_))
    obtain ⟨e, he⟩ : ∃ e, d[i]? = some e := ⟨_, List.getElem?_eq_getElem (by rw [hI.ld]; exact (List.getElem?_eq_some_iff.1 hnp).1)⟩
    have hil := (List.getElem?_eq_some_iff.1 hnp).1
    have hidl : i < d.length := by rw [hI.ld]; exact hil
    have hiol : i < o.length := by rw [hI.lo]; exact hil
    have hvb := hI.vb hnp he
    have heu := hI.eup hnp he
    refine r_idxS hT rfl rfl rfl rfl rfl rfl rfl rfl rfl rfl rfl rfl rfl (by show (0 : Int) ≤ (i : Int); omega) (by show ((i : Nat) : Int).toNat < (d.map nRow).length; rw [List.length_map]; omega) ?_
    skip
    refine r_loadS (row := nRow e) hT rfl rfl rfl rfl rfl rfl rfl rfl (by show (d.map nRow)[((i : Int)).toNat]? = _; rw [Int.toNat_natCast, List.getElem?_map, he]; rfl) rfl rfl rfl ?_
    (repeat (first | refine r_end ?_ | (refine r_op ?_; first | refine r_pure hT rfl rfl rfl rfl rfl rfl ?_ | refine r_load hT rfl rfl rfl rfl rfl rfl rfl rfl rfl ?_) | refine gi_seq ?_ | refine gi_plain_ne 13 rfl ?_ | refine gi_block ?_))
    apply gi_cut (σ := Unit) (fun _ => [(12, I (valR m.wl ms np e)), (13, Bo (eqB np.v.k 1)), (10, I (i : Int)), (11, .box 6 0), (3, .box 0 0), (4, .box 1 0), (5, .box 2 0), (7, .box 3 0), (8, .box 4 0)]) (fun _ => H7 t m ms np) (fun _ => [eN o, eN d]) (fun _ => True) (fun _ => rfl)
    case first =>
      intro fin
      (repeat (first | (refine r_op ?_; refine r_pure hT rfl rfl rfl rfl rfl rfl ?_) | refine gi_plain ?_))
      refine r_case (d := 43) rfl (fun hk => ?_) (fun hk => ?_)
      · have hk1 : np.v.k = 1 := by rw [eqB_eq] at hk; exact of_decide_eq_true hk
        (repeat ((refine r_op ?_; first | refine r_pure hT rfl rfl rfl rfl rfl rfl ?_ | refine r_load hT rfl rfl rfl rfl rfl rfl rfl rfl rfl ?_)))
        refine r_thaw 45 rfl ?_
        skip
        refine r_call (ContainsI_ok m.wl np.v.i hw) rfl rfl rfl rfl rfl rfl rfl rfl Try.func54 rfl rfl rfl pB ?_
        rintro r2 S2 ⟨rfl, rfl⟩
        (repeat (first | refine r_end ?_ | (refine r_op ?_; refine r_pure hT rfl rfl rfl rfl rfl rfl ?_)))
        refine gi_cond rfl (fun hwd => ?_) (fun hwd => ?_)
        · have hw1 : isW m.wl np = true := by unfold isW; rw [hwd, decide_eq_true hk1]; rfl
          (repeat (first | refine r_end ?_ | (refine r_op ?_; refine r_pure hT rfl rfl rfl rfl rfl rfl ?_) | refine gi_seq ?_ | refine gi_plain_ne 19 rfl ?_ | refine gi_inBlock ?_))
          exact fin () _ _ _ trivial ⟨by show some (I _) = some (I (valR m.wl ms np e)); rw [valR_w hw1], rfl, rfl, rfl, rfl, rfl, rfl, rfl, rfl, trivial⟩ ⟨rfl, rfl, rfl, rfl, rfl, rfl, rfl, trivial⟩ ⟨rfl, rfl, trivial⟩
        have hw0 : isW m.wl np = false := by unfold isW; rw [hwd, Bool.and_false]
        (repeat (first | (refine r_op ?_; first | refine r_pure hT rfl rfl rfl rfl rfl rfl ?_ | refine r_load hT rfl rfl rfl rfl rfl rfl rfl rfl rfl ?_) | refine gi_seq ?_ | refine gi_plain ?_))
        refine r_call (ContainsV_ok ms np.v hms) rfl rfl rfl rfl rfl rfl rfl rfl Try.func55 rfl rfl rfl pB ?_
        rintro r2 S2 ⟨rfl, rfl⟩
        (repeat (first | refine r_end ?_ | (refine r_op ?_; refine r_pure hT rfl rfl rfl rfl rfl rfl ?_)))
        refine gi_cond rfl (fun hmb => ?_) (fun hmb => ?_)
        · have hmb : isMb ms np = true := hmb
          (repeat (first | refine r_end ?_ | (refine r_op ?_; refine r_pure hT rfl rfl rfl rfl rfl rfl ?_) | refine gi_seq ?_ | refine gi_plain_ne 19 rfl ?_ | refine gi_inBlock ?_))
          exact fin () _ _ _ trivial ⟨by show some (I _) = some (I (valR m.wl ms np e)); rw [valR_m hw0 hmb], rfl, rfl, rfl, rfl, rfl, rfl, rfl, rfl, trivial⟩ ⟨rfl, rfl, rfl, rfl, rfl, rfl, rfl, trivial⟩ ⟨rfl, rfl, trivial⟩
        have hmb : isMb ms np = false := hmb
        (repeat (first | (refine r_op ?_; refine r_pure hT rfl rfl rfl rfl rfl rfl ?_) | refine gi_seq ?_ | refine gi_plain ?_))
        refine r_case (d := 59) rfl (fun h59 => ?_) (fun h59 => ?_)
        · rw [notB_eq, hk] at h59
          exact absurd h59 (by decide)
        · skip
          (repeat (first | refine r_end ?_ | (refine r_op ?_; first | refine r_pure hT rfl rfl rfl rfl rfl rfl ?_ | refine r_off rfl rfl rfl rfl rfl ?_) | refine gi_seq ?_ | refine gi_skip ?_ | refine gi_inBlock ?_ | (refine gi_cnd ?_; first | refine gi_true rfl ?_ | refine gi_false rfl ?_)))
          exact fin () _ _ _ trivial ⟨by show some (I _) = some (I (valR m.wl ms np e)); rw [valR_r hw0 hmb hk1], rfl, rfl, rfl, rfl, rfl, rfl, rfl, rfl, trivial⟩ ⟨rfl, rfl, rfl, rfl, rfl, rfl, rfl, trivial⟩ ⟨rfl, rfl, trivial⟩
      · have hk1 : np.v.k ≠ 1 := by rw [eqB_eq] at hk; exact of_decide_eq_false hk
        have hw0 : isW m.wl np = false := by unfold isW; rw [decide_eq_false hk1]; rfl
        (repeat (first | refine r_end ?_ | (refine r_op ?_; first | refine r_pure hT rfl rfl rfl rfl rfl rfl ?_ | refine r_load hT rfl rfl rfl rfl rfl rfl rfl rfl rfl ?_ | refine r_off rfl rfl rfl rfl rfl ?_) | refine gi_seq ?_ | refine gi_plain ?_ | (refine gi_cnd ?_; first | refine gi_true rfl ?_ | refine gi_false rfl ?_)))
        refine r_call (ContainsV_ok ms np.v hms) rfl rfl rfl rfl rfl rfl rfl rfl Try.func55 rfl rfl rfl pB ?_
        rintro r2 S2 ⟨rfl, rfl⟩
        (repeat (first | refine r_end ?_ | (refine r_op ?_; refine r_pure hT rfl rfl rfl rfl rfl rfl ?_)))
        refine gi_cond rfl (fun hmb => ?_) (fun hmb => ?_)
        · have hmb : isMb ms np = true := hmb
          (repeat (first | refine r_end ?_ | (refine r_op ?_; refine r_pure hT rfl rfl rfl rfl rfl rfl ?_) | refine gi_seq ?_ | refine gi_plain_ne 19 rfl ?_ | refine gi_inBlock ?_))
          exact fin () _ _ _ trivial ⟨by show some (I _) = some (I (valR m.wl ms np e)); rw [valR_m hw0 hmb], rfl, rfl, rfl, rfl, rfl, rfl, rfl, rfl, trivial⟩ ⟨rfl, rfl, rfl, rfl, rfl, rfl, rfl, trivial⟩ ⟨rfl, rfl, trivial⟩
        have hmb : isMb ms np = false := hmb
        (repeat (first | (refine r_op ?_; refine r_pure hT rfl rfl rfl rfl rfl rfl ?_) | refine gi_seq ?_ | refine gi_plain ?_))
        refine r_case (d := 59) rfl (fun h59 => ?_) (fun h59 => ?_)
        · (repeat (first | refine r_end ?_ | (refine r_op ?_; refine r_pure hT rfl rfl rfl rfl rfl rfl ?_)))
          refine gi_le (p := 0) (q := e) rfl (fun he0 => ?_) (fun he0 => ?_)
          · have hcp : cP np = 1 := if_neg hk1
            (repeat (first | refine r_end ?_ | (refine r_op ?_; refine r_pure hT rfl rfl rfl rfl rfl rfl ?_) | refine gi_seq ?_ | refine gi_plain_ne 19 rfl ?_ | refine gi_inBlock ?_))
            exact fin () _ _ _ trivial ⟨by show some (I _) = some (I (valR m.wl ms np e)); rw [wr_i64 (by omega) (by omega), valR_p hw0 hmb hk1 he0], rfl, rfl, rfl, rfl, rfl, rfl, rfl, rfl, trivial⟩ ⟨rfl, rfl, rfl, rfl, rfl, rfl, rfl, trivial⟩ ⟨rfl, rfl, trivial⟩
          · skip
            (repeat (first | refine gi_seq ?_ | refine gi_skip ?_ | refine gi_inBlock ?_))
            exact fin () _ _ _ trivial ⟨by show some (I _) = some (I (valR m.wl ms np e)); rw [valR_n hw0 hmb he0], rfl, rfl, rfl, rfl, rfl, rfl, rfl, rfl, trivial⟩ ⟨rfl, rfl, rfl, rfl, rfl, rfl, rfl, trivial⟩ ⟨rfl, rfl, trivial⟩
        · rw [notB_eq, hk] at h59
          exact absurd h59 (by decide)
    case after =>
      intro _ _
      generalize hv : valR m.wl ms np e = v at hvb ⊢
      have hskip : (np.p < 0 ∨ (i : Int) ≤ np.p ∨ v < 0) → RInv t m.wl ms i (o.set i v) d := fun h => by
        subst hv; exact hI.skip hnp he h
      (repeat (first | (refine r_op ?_; first | refine r_pure hT rfl rfl rfl rfl rfl rfl ?_ | refine r_load hT rfl rfl rfl rfl rfl rfl rfl rfl rfl ?_) | refine gi_plain ?_))
      refine r_idxS hT rfl rfl rfl rfl rfl rfl rfl rfl rfl rfl rfl rfl rfl (by show (0 : Int) ≤ (i : Int); omega) (by show ((i : Nat) : Int).toNat < (o.map nRow).length; rw [List.length_map]; omega) ?_
      skip
      refine r_storeS (row := nRow o[i]) hT rfl rfl rfl rfl rfl rfl rfl rfl rfl rfl rfl rfl rfl (by show (List.map nRow _)[((i : Nat) : Int).toNat]? = _; rw [Int.toNat_natCast, List.getElem?_map, List.getElem?_eq_getElem hiol]; rfl) ?_
      (repeat (first | refine r_end ?_ | refine gi_seq ?_))
      refine gi_weak (F' := [(12, I v), (13, Bo (eqB np.v.k 1)), (10, I (i : Int)), (11, .box 6 0), (3, .box 0 0), (4, .box 1 0), (5, .box 2 0), (7, .box 3 0), (8, .box 4 0)]) (H' := H7 t m ms np) (S' := [eN (o.set i v), eN d]) ⟨rfl, rfl, rfl, rfl, rfl, rfl, rfl, rfl, rfl, trivial⟩ ⟨rfl, rfl, rfl, rfl, rfl, rfl, rfl, trivial⟩ ⟨?_, rfl, trivial⟩ rfl ?_
      · show eN (o.set i v) = some (⟨_, _, (o.map nRow).set ((i : Nat) : Int).toNat (nRow v), _⟩ : SE)
        rw [Int.toNat_natCast, ← List.map_set]
      (repeat (first | (refine r_op ?_; first | refine r_pure hT rfl rfl rfl rfl rfl rfl ?_ | refine r_load hT rfl rfl rfl rfl rfl rfl rfl rfl rfl ?_) | refine gi_plain ?_))
      refine r_case (d := 72) rfl (fun hp0 => ?_) (fun hp0 => ?_)
      · (repeat (first | refine r_end ?_ | (refine r_op ?_; first | refine r_pure hT rfl rfl rfl rfl rfl rfl ?_ | refine r_off rfl rfl rfl rfl rfl ?_) | refine gi_exit rfl ?_ | (refine gi_cnd ?_; first | refine gi_true rfl ?_ | refine gi_false rfl ?_)))
        refine gi_weak (F' := []) (H' := H6 t m ms) (S' := [eN (o.set i v), eN d]) trivial ⟨rfl, rfl, rfl, rfl, rfl, rfl, trivial⟩ ⟨rfl, rfl, trivial⟩ rfl ?_
        refine gi_endR (l := l) (r := r) (w0 := wv) rfl rfl (by rw [← hrr]; exact hwl1) hf1 rfl rfl ⟨rfl, _, _, rfl, hskip (.inl (by rw [ltB_eq] at hp0; exact of_decide_eq_true hp0))⟩
      rw [ltB_eq] at hp0
      have hp0 := of_decide_eq_false hp0
      (repeat ((refine r_op ?_; first | refine r_pure hT rfl rfl rfl rfl rfl rfl ?_ | refine r_load hT rfl rfl rfl rfl rfl rfl rfl rfl rfl ?_)))
      refine r_case (d := 78) rfl (fun hp1 => ?_) (fun hp1 => ?_)
      · (repeat (first | refine r_end ?_ | (refine r_op ?_; first | refine r_pure hT rfl rfl rfl rfl rfl rfl ?_ | refine r_off rfl rfl rfl rfl rfl ?_) | refine gi_exit rfl ?_ | (refine gi_cnd ?_; first | refine gi_true rfl ?_ | refine gi_false rfl ?_)))
        refine gi_weak (F' := []) (H' := H6 t m ms) (S' := [eN (o.set i v), eN d]) trivial ⟨rfl, rfl, rfl, rfl, rfl, rfl, trivial⟩ ⟨rfl, rfl, trivial⟩ rfl ?_
        refine gi_endR (l := l) (r := r) (w0 := wv) rfl rfl (by rw [← hrr]; exact hwl1) hf1 rfl rfl ⟨rfl, _, _, rfl, hskip (.inr (.inl (by rw [leB_eq] at hp1; exact of_decide_eq_true hp1)))⟩
      rw [leB_eq] at hp1
      have hp1 := of_decide_eq_false hp1
      (repeat (first | refine r_end ?_ | (refine r_op ?_; refine r_pure hT rfl rfl rfl rfl rfl rfl ?_)))
      refine gi_lt rfl (fun hv0 => ?_) (fun hv0 => ?_)
      · (repeat (refine gi_exit rfl ?_))
        refine gi_weak (F' := []) (H' := H6 t m ms) (S' := [eN (o.set i v), eN d]) trivial ⟨rfl, rfl, rfl, rfl, rfl, rfl, trivial⟩ ⟨rfl, rfl, trivial⟩ rfl ?_
        refine gi_endR (l := l) (r := r) (w0 := wv) rfl rfl (by rw [← hrr]; exact hwl1) hf1 rfl rfl ⟨rfl, _, _, rfl, hskip (.inr (.inr hv0))⟩
      obtain ⟨p, hp⟩ : ∃ p : Nat, np.p = p := ⟨np.p.toNat, by omega⟩
      have hpi : p < i := by omega
      obtain ⟨q, hq⟩ : ∃ q, t[p]? = some q := ⟨_, List.getElem?_eq_getElem (by omega)⟩
      obtain ⟨f, hf⟩ : ∃ f, d[p]? = some f := ⟨_, List.getElem?_eq_getElem (by omega)⟩
      have htell : RInv t m.wl ms i (o.set i v) (d.set p (nearI f (v + cK q np))) := by
        subst hv; exact hI.tell hnp he hp hpi hq hf (by omega)
      have hcb := cK_b q np
      apply gi_cut (σ := Unit) (fun _ => [(12, I (v + cK q np)), (10, I (i : Int)), (11, .box 6 0), (3, .box 0 0), (4, .box 1 0), (5, .box 2 0), (7, .box 3 0), (8, .box 4 0)]) (fun _ => H7 t m ms np) (fun _ => [eN (o.set i v), eN d]) (fun _ => True) (fun _ => rfl)
      case first =>
        intro fin
        (repeat (first | (refine r_op ?_; refine r_pure hT rfl rfl rfl rfl rfl rfl ?_) | refine gi_seq ?_ | refine gi_plain ?_ | refine gi_skip ?_))
        refine r_case (d := 83) rfl (fun hk => ?_) (fun hk => ?_)
        · have hk1 : np.v.k = 1 := by rw [eqB_eq] at hk; exact of_decide_eq_true hk
          (repeat ((refine r_op ?_; first | refine r_pure hT rfl rfl rfl rfl rfl rfl ?_ | refine r_load hT rfl rfl rfl rfl rfl rfl rfl rfl rfl ?_)))
          refine r_thaw 84 rfl ?_
          refine r_idx (row := q.row) hT rfl rfl rfl rfl rfl rfl rfl rfl rfl rfl rfl rfl (by show 0 ≤ np.p; omega) (by rw [hp, Int.toNat_natCast]; simp [hq]) ?_
          (repeat (first | refine r_end ?_ | (refine r_op ?_; first | refine r_pure hT rfl rfl rfl rfl rfl rfl ?_ | refine r_load hT rfl rfl rfl rfl rfl rfl rfl rfl rfl ?_)))
          refine gi_eq rfl (fun hq1 => ?_) (fun hq1 => ?_)
          · have hc : cK q np = 1 := if_pos ⟨hk1, hq1⟩
            (repeat (first | refine r_end ?_ | (refine r_op ?_; refine r_pure hT rfl rfl rfl rfl rfl rfl ?_) | refine gi_plain_ne 23 rfl ?_))
            exact fin () _ _ _ trivial ⟨by show some (I _) = some (I (v + cK q np)); rw [hc, wr_i64 (by omega) (by omega)], rfl, rfl, rfl, rfl, rfl, rfl, rfl, trivial⟩ ⟨rfl, rfl, rfl, rfl, rfl, rfl, rfl, trivial⟩ ⟨rfl, rfl, trivial⟩
          · have hc : cK q np = 0 := if_neg (fun h => hq1 h.2)
            (repeat (refine gi_skip ?_))
            exact fin () _ _ _ trivial ⟨by show some (I _) = some (I (v + cK q np)); rw [hc, Int.add_zero], rfl, rfl, rfl, rfl, rfl, rfl, rfl, trivial⟩ ⟨rfl, rfl, rfl, rfl, rfl, rfl, rfl, trivial⟩ ⟨rfl, rfl, trivial⟩
        · have hk1 : np.v.k ≠ 1 := by rw [eqB_eq] at hk; exact of_decide_eq_false hk
          have hc : cK q np = 0 := if_neg (fun h => hk1 h.1)
          (repeat (first | refine r_end ?_ | (refine r_op ?_; first | refine r_pure hT rfl rfl rfl rfl rfl rfl ?_ | refine r_off rfl rfl rfl rfl rfl ?_) | refine gi_skip ?_ | (refine gi_cnd ?_; first | refine gi_true rfl ?_ | refine gi_false rfl ?_)))
          skip
          exact fin () _ _ _ trivial ⟨by show some (I _) = some (I (v + cK q np)); rw [hc, Int.add_zero], rfl, rfl, rfl, rfl, rfl, rfl, rfl, trivial⟩ ⟨rfl, rfl, rfl, rfl, rfl, rfl, rfl, trivial⟩ ⟨rfl, rfl, trivial⟩
      case after =>
        intro _ _
        refine gi_drawM [11] [(1, .p), (4, .p), (8, .p), (0, .t), (2, .t), (3, .t), (5, .t), (6, .p), (7, .t), (9, .o), (10, .p), (11, .l)] [0, 0, 2, 0, 0, 16, 40, 64, 0, 384, 1023, 2047] [0, 0, 2, 0, 0, 16, 40, 64, 0, 384, 5, 1536] hm rfl (by kernel_rfl) (fun w1 K => ?_)
        (repeat ((refine r_op ?_; first | refine r_pure hT rfl rfl rfl rfl rfl rfl ?_ | refine r_load hT rfl rfl rfl rfl rfl rfl rfl rfl rfl ?_)))
        refine r_idxS hT rfl rfl rfl rfl rfl rfl rfl rfl rfl rfl rfl rfl rfl (by show 0 ≤ np.p; omega) (by show np.p.toNat < (d.map nRow).length; rw [List.length_map]; omega) ?_
        skip
        refine r_loadS (row := nRow f) hT rfl rfl rfl rfl rfl rfl rfl rfl (by show (d.map nRow)[np.p.toNat]? = _; rw [hp, Int.toNat_natCast, List.getElem?_map, hf]; rfl) rfl rfl rfl ?_
        skip
        refine r_call (nearest_ok f (v + cK q np)) rfl rfl rfl rfl rfl rfl rfl rfl Try.func56 rfl rfl rfl pI ?_
        rintro r2 S2 ⟨rfl, rfl⟩
        skip
        refine r_idxS hT rfl rfl rfl rfl rfl rfl rfl rfl rfl rfl rfl rfl rfl (by show 0 ≤ np.p; omega) (by show np.p.toNat < (d.map nRow).length; rw [List.length_map]; omega) ?_
        skip
        refine r_storeS (row := nRow f) hT rfl rfl rfl rfl rfl rfl rfl rfl rfl rfl rfl rfl rfl (by show (d.map nRow)[np.p.toNat]? = _; rw [hp, Int.toNat_natCast, List.getElem?_map, hf]; rfl) ?_
        (repeat (first | refine r_end ?_ | refine gi_inBlock ?_))
        refine gi_weak (F' := []) (H' := H6 t m ms) (S' := [eN (o.set i v), eN (d.set p (nearI f (v + cK q np)))]) trivial ⟨rfl, rfl, rfl, rfl, rfl, rfl, trivial⟩ ⟨rfl, ?_, trivial⟩ rfl ?_
        · show eN (d.set p (nearI f (v + cK q np))) = some (⟨_, _, (d.map nRow).set np.p.toNat (nRow (nearI f (v + cK q np))), _⟩ : SE)
          rw [hp, Int.toNat_natCast, ← List.map_set]
        refine gi_endR (l := l) (r := r) (w0 := wv) rfl rfl (by rw [← hrr]; exact hwl1) hf1 rfl rfl ⟨rfl, _, _, rfl, htell⟩
  · intro w3 X3 D H1 S1 hpost hnb hbh
    obtain ⟨rfl, o1, d1, rfl, hI1⟩ := hpost
    obtain ⟨xX, xZ, xY, xnb, xB, xnv, xV⟩ := X3
    obtain ⟨hnb, hnv⟩ := hnb
    have hnb : xnb = 0 := hnb
    have hnv : xnv = 0 := hnv
    subst hnb
    subst hnv
    (repeat (first | refine r_end ?_ | (refine r_op ?_; first | refine r_pure hT rfl rfl rfl rfl rfl rfl ?_ | refine r_load hT rfl rfl rfl rfl rfl rfl rfl rfl rfl ?_) | refine gi_seq ?_ | refine gi_plain ?_ | refine gi_inBlock ?_))
    refine gi_retM hbh rfl hT rfl rfl [] [0] rfl rfl rfl rfl rfl rfl rfl rfl rfl ?_ rfl rfl
    exact ⟨rfl, rfl, o1, rfl, hI1.rch⟩
end Go.Proofs.Ytmocggibcniggaa.Kt
namespace Go.Proofs.Ytmocggibcniggaa.Kt
open Go Kw Go.Proofs
attribute [local irreducible] Kw.GI Kw.GR Kw.FnR Kw.FnX
set_option maxHeartbeats 8000000
set_option maxRecDepth 100000
/-! ### addresses -/
def okA (a : Int) : Bool := leB 0 a && leB a 4294967295
theorem Right_ok (a : Int) : FnR Try.prog 77 [I a] (RB (okA a)) := by
  refine fnR_intro (T := TT) (n := 9) Try.func77 rfl rfl rfl (fun w Z => ?_)
  (repeat (first | refine r_end ?_ | (refine r_op ?_; refine r_pure hT rfl rfl rfl rfl rfl rfl ?_) | refine gi_seq ?_ | refine gi_plain ?_))
  refine r_case (d := 5) rfl (fun h => ?_) (fun h => ?_)
  · (repeat (first | refine r_end ?_ | (refine r_op ?_; refine r_pure hT rfl rfl rfl rfl rfl rfl ?_)))
    refine gi_retW hT Try.func77 rfl rfl [] rfl rfl rfl rfl ?_
    exact ⟨by unfold okA; rw [h]; rfl, rfl⟩
  · (repeat (first | refine r_end ?_ | (refine r_op ?_; first | refine r_pure hT rfl rfl rfl rfl rfl rfl ?_ | refine r_off rfl rfl rfl rfl rfl ?_)))
    refine gi_retW hT Try.func77 rfl rfl [] rfl rfl rfl rfl ?_
    exact ⟨by unfold okA; rw [h]; rfl, rfl⟩
theorem pMask_ok (b : Int) : FnR Try.prog 94 [I b] (RI (maskF b)) := by
  obtain ⟨g1, g2⟩ := nM_rng b
  refine fnR_intro (T := TT) (n := 9) Try.func94 rfl rfl rfl (fun w Z => ?_)
  (repeat (first | refine r_end ?_ | (refine r_op ?_; refine r_pure hT rfl rfl rfl rfl rfl rfl ?_) | refine gi_seq ?_ | refine gi_plain ?_))
  refine r_turn (d := 6) (y := I (nM b)) rfl ?_ ?_
  · rw [mm_nM]
    rw [show (32 : Int) - (32 - nM b) = nM b by omega, wr_i64 (by omega) (by omega)]
  refine r_shl rfl rfl rfl rfl rfl rfl rfl rfl g1 rfl ?_
  (repeat (first | refine r_end ?_ | (refine r_op ?_; refine r_pure hT rfl rfl rfl rfl rfl rfl ?_)))
  refine gi_retW hT Try.func94 rfl rfl [] rfl rfl rfl rfl ?_
  refine ⟨?_, rfl⟩
  unfold maskF
  rfl
@[irreducible] def pnetF (a b : Int) : Int := Go.bits .and .i64 a (maskF b)
theorem pNet_ok (a b : Int) : FnR Try.prog 78 [I a, I b] (RI (pnetF a b)) := by
  refine fnR_intro (T := TT) (n := 9) Try.func78 rfl rfl rfl (fun w Z => ?_)
  (repeat (first | refine r_end ?_ | (refine r_op ?_; refine r_pure hT rfl rfl rfl rfl rfl rfl ?_) | refine gi_seq ?_ | refine gi_plain ?_))
  refine r_call (pMask_ok b) rfl rfl rfl rfl rfl rfl rfl rfl Try.func94 rfl rfl rfl pI ?_
  rintro r S1 ⟨rfl, rfl⟩
  (repeat (first | refine r_end ?_ | (refine r_op ?_; refine r_pure hT rfl rfl rfl rfl rfl rfl ?_)))
  refine gi_retW hT Try.func78 rfl rfl [] rfl rfl rfl rfl ?_
  refine ⟨?_, rfl⟩
  unfold pnetF
  rfl
def inP (a p b : Int) : Bool := okA a && (okA p && (leB 0 b && (leB b 32 && eqB (pnetF a b) (pnetF p b))))
theorem In_ok (a p b : Int) : FnR Try.prog 48 [I a, I p, I b] (RB (inP a p b)) := by
  have done : ∀ {x : Bool}, x = inP a p b → Bo x = Bo (inP a p b) := fun h => by rw [h]
  refine fnR_intro (T := TT) (n := 30) Try.func48 rfl rfl rfl (fun w Z => ?_)
  (repeat (first | refine r_end ?_ | (refine r_op ?_; refine r_pure hT rfl rfl rfl rfl rfl rfl ?_) | refine gi_seq ?_ | refine gi_plain ?_))
  refine r_call (Right_ok a) rfl rfl rfl rfl rfl rfl rfl rfl Try.func77 rfl rfl rfl pB ?_
  rintro r S1 ⟨rfl, rfl⟩
  (repeat ((refine r_op ?_; refine r_pure hT rfl rfl rfl rfl rfl rfl ?_)))
  refine r_case (d := 9) rfl (fun h1 => ?_) (fun h1 => ?_)
  · (repeat ((refine r_op ?_; refine r_pure hT rfl rfl rfl rfl rfl rfl ?_)))
    refine r_call (Right_ok p) rfl rfl rfl rfl rfl rfl rfl rfl Try.func77 rfl rfl rfl pB ?_
    rintro r S1 ⟨rfl, rfl⟩
    (repeat ((refine r_op ?_; refine r_pure hT rfl rfl rfl rfl rfl rfl ?_)))
    refine r_case (d := 13) rfl (fun h2 => ?_) (fun h2 => ?_)
    · (repeat ((refine r_op ?_; refine r_pure hT rfl rfl rfl rfl rfl rfl ?_)))
      refine r_case (d := 17) rfl (fun h3 => ?_) (fun h3 => ?_)
      · (repeat ((refine r_op ?_; refine r_pure hT rfl rfl rfl rfl rfl rfl ?_)))
        refine r_case (d := 21) rfl (fun h4 => ?_) (fun h4 => ?_)
        · (repeat ((refine r_op ?_; refine r_pure hT rfl rfl rfl rfl rfl rfl ?_)))
          refine r_call (pNet_ok a b) rfl rfl rfl rfl rfl rfl rfl rfl Try.func78 rfl rfl rfl pI ?_
          rintro r S1 ⟨rfl, rfl⟩
          (repeat ((refine r_op ?_; refine r_pure hT rfl rfl rfl rfl rfl rfl ?_)))
          refine r_call (pNet_ok p b) rfl rfl rfl rfl rfl rfl rfl rfl Try.func78 rfl rfl rfl pI ?_
          rintro r S1 ⟨rfl, rfl⟩
          (repeat (first | refine r_end ?_ | (refine r_op ?_; refine r_pure hT rfl rfl rfl rfl rfl rfl ?_)))
          refine gi_retW hT Try.func48 rfl rfl [] rfl rfl rfl rfl ?_
          exact ⟨by unfold inP; rw [h1, h2, h3, h4]; rfl, rfl⟩
        · (repeat (first | refine r_end ?_ | (refine r_op ?_; first | refine r_pure hT rfl rfl rfl rfl rfl rfl ?_ | refine r_off rfl rfl rfl rfl rfl ?_)))
          refine gi_retW hT Try.func48 rfl rfl [] rfl rfl rfl rfl ?_
          exact ⟨by unfold inP; rw [h1, h2, h3, h4]; rfl, rfl⟩
      · (repeat (first | refine r_end ?_ | (refine r_op ?_; first | refine r_pure hT rfl rfl rfl rfl rfl rfl ?_ | refine r_off rfl rfl rfl rfl rfl ?_)))
        refine gi_retW hT Try.func48 rfl rfl [] rfl rfl rfl rfl ?_
        exact ⟨by unfold inP; rw [h1, h2, h3]; rfl, rfl⟩
    · (repeat (first | refine r_end ?_ | (refine r_op ?_; first | refine r_pure hT rfl rfl rfl rfl rfl rfl ?_ | refine r_off rfl rfl rfl rfl rfl ?_)))
      refine gi_retW hT Try.func48 rfl rfl [] rfl rfl rfl rfl ?_
      exact ⟨by unfold inP; rw [h1, h2]; rfl, rfl⟩
  · (repeat (first | refine r_end ?_ | (refine r_op ?_; first | refine r_pure hT rfl rfl rfl rfl rfl rfl ?_ | refine r_off rfl rfl rfl rfl rfl ?_)))
    refine gi_retW hT Try.func48 rfl rfl [] rfl rfl rfl rfl ?_
    exact ⟨by unfold inP; rw [h1]; rfl, rfl⟩
/-! ### where an address is -/
structure Src where
  v : Vt
  p : Int
  b : Int
  ok : Bool
abbrev Src.av (s : Src) : AV := .tup [s.v.av, I s.p, I s.b, Bo s.ok]
def z0 : Src := ⟨⟨0, 0⟩, 0, 0, false⟩
def sn1 (a : Int) (st : Src) (s : Sn) : Src := if inP a s.p s.b = true ∧ (st.ok = false ∨ st.b < s.b) then ⟨s.v, s.p, s.b, true⟩ else st
def sb1 (a : Int) (st : Src) (s : Sb) : Src := if inP a s.p s.b = true ∧ (st.ok = false ∨ st.b < s.b) then ⟨⟨1, s.r⟩, s.p, s.b, true⟩ else st
def srcF (a : Int) (m : Mp) : Src := m.sb.foldl (sb1 a) (m.sn.foldl (sn1 a) z0)
theorem foldl_tk {α β : Type} {f : β → α → β} {z : β} {l : List α} {i : Nat} {x : α} (hx : l[i]? = some x) : (l.take (i + 1)).foldl f z = f ((l.take i).foldl f z) x := by
  rw [List.take_add_one, hx, List.foldl_append]
  rfl
abbrev rsSn (l : List Sn) : AV := .r (.rs 4 (l.map Sn.row))
abbrev rsSb (l : List Sb) : AV := .r (.rs 4 (l.map Sb.row))
theorem pSource_ok (m : Mp) (a : Int) (h1 : m.sn.length < 1000000) (h2 : m.sb.length < 100000000) : FnR Try.prog 16 [avMf m, I a] (fun r S => r = (srcF a m).av ∧ S = []) := by
  refine fnR_intro (T := TT) (n := 77) Try.func16 rfl rfl rfl (fun w Z => ?_)
  (repeat (first | refine r_end ?_ | (refine r_op ?_; first | refine r_pure hT rfl rfl rfl rfl rfl rfl ?_ | refine r_load hT rfl rfl rfl rfl rfl rfl rfl rfl rfl ?_ | refine r_box rfl rfl rfl rfl rfl rfl rfl rfl rfl ?_ | refine r_alloc hT rfl rfl rfl rfl rfl rfl rfl rfl rfl ?_) | refine gi_seq ?_ | refine gi_plain ?_ | refine gi_block ?_))
  refine gi_thaw 13 rfl ?_
  refine gi_loop (σ := Nat × Src) (fun s => [(15, I (s.1 : Int)), (14, I (m.sn.length : Int)), (13, rsSn m.sn), (2, .box 0 0), (4, .box 1 0), (1, I a), (5, I s.2.p), (6, I s.2.b), (7, Bo s.2.ok)]) (fun s => [hMf m, hV s.2.v]) (fun _ => []) (fun s => s.1 ≤ m.sn.length ∧ s.2 = (m.sn.take s.1).foldl (sn1 a) z0) (fun s => m.sn.length - s.1) (0, z0) ⟨Nat.zero_le _, rfl⟩ ⟨rfl, by show some (I (((m.sn.map Sn.row).length : Nat) : Int)) = _; rw [List.length_map], rfl, rfl, rfl, rfl, rfl, rfl, rfl, trivial⟩ ⟨rfl, rfl, trivial⟩ trivial (fun _ => rfl) (fun s hs next => ?_)
  obtain ⟨i, st⟩ := s
  obtain ⟨hi, hst⟩ := hs
  simp only at hi hst
  (repeat (first | refine r_end ?_ | (refine r_op ?_; refine r_pure hT rfl rfl rfl rfl rfl rfl ?_) | refine gi_seq ?_ | refine gi_plain ?_))
  refine gi_lt (p := (i : Int)) rfl (fun h3 => ?_) (fun h3 => ?_)
  · obtain ⟨x, hx⟩ : ∃ x, m.sn[i]? = some x := ⟨_, List.getElem?_eq_getElem (by omega)⟩
    have go : ∀ st', st' = sn1 a st x → ∀ F1 H1 S1, SubF [(15, I (wr .i64 ((i : Int) + 1))), (14, I (m.sn.length : Int)), (13, rsSn m.sn), (2, .box 0 0), (4, .box 1 0), (1, I a), (5, I st'.p), (6, I st'.b), (7, Bo st'.ok)] F1 → SubH [hMf m, hV st'.v] H1 → SubS [] S1 → GI _ _ F1 H1 S1 := fun st' hst' F1 H1 S1 hF hH hS => by
      refine next (i + 1, st') F1 H1 S1 ⟨by simp only; omega, by simp only; rw [foldl_tk hx, ← hst, hst']⟩ (by simp only; omega) ?_ hH hS
      rw [wr_i64 (by omega) (by omega)] at hF
      simpa using hF
    clear next
    (repeat (first | refine gi_seq ?_ | refine gi_plain ?_ | refine gi_skip ?_ | refine gi_block ?_))
    refine r_idx (row := x.row) hT rfl rfl rfl rfl rfl rfl rfl rfl rfl rfl rfl rfl (by show (0 : Int) ≤ (i : Int); omega) (by simp [hx]) ?_
    (repeat (first | refine r_end ?_ | (refine r_op ?_; first | refine r_pure hT rfl rfl rfl rfl rfl rfl ?_ | refine r_load hT rfl rfl rfl rfl rfl rfl rfl rfl rfl ?_ | refine r_store hT rfl rfl rfl rfl rfl rfl rfl rfl rfl rfl ?_ | refine r_alloc hT rfl rfl rfl rfl rfl rfl rfl rfl rfl ?_) | refine gi_seq ?_ | refine gi_plain ?_))
    refine r_call (In_ok a x.p x.b) rfl rfl rfl rfl rfl rfl rfl rfl Try.func48 rfl rfl rfl pB ?_
    rintro r S1 ⟨rfl, rfl⟩
    (repeat ((refine r_op ?_; refine r_pure hT rfl rfl rfl rfl rfl rfl ?_)))
    refine r_case (d := 25) rfl (fun c1 => ?_) (fun c1 => ?_)
    · (repeat ((refine r_op ?_; refine r_pure hT rfl rfl rfl rfl rfl rfl ?_)))
      refine r_case (d := 28) rfl (fun c2 => ?_) (fun c2 => ?_)
      · rw [notB_eq, Bool.not_eq_true'] at c2
        have hs1 : (⟨x.v, x.p, x.b, true⟩ : Src) = sn1 a st x := (if_pos ⟨c1, .inl c2⟩).symm
        (repeat (first | refine r_end ?_ | (refine r_op ?_; first | refine r_pure hT rfl rfl rfl rfl rfl rfl ?_ | refine r_off rfl rfl rfl rfl rfl ?_) | (refine gi_cnd ?_; first | refine gi_true rfl ?_ | refine gi_false rfl ?_)))
        refine gi_pick [0, 2, 1] [] rfl rfl rfl rfl rfl ?_
        refine gi_drawT 2 true 10 [] [(0, .p), (2, .p), (4, .p), (1, .t), (3, .t), (5, .t), (6, .o), (7, .p), (8, .p), (9, .p)] .it hm rfl (by kernel_rfl) (fun w1 K => ?_)
        (repeat (first | refine r_end ?_ | (refine r_op ?_; first | refine r_pure hT rfl rfl rfl rfl rfl rfl ?_ | refine r_load hT rfl rfl rfl rfl rfl rfl rfl rfl rfl ?_ | refine r_storeO hT rfl rfl rfl rfl rfl rfl rfl rfl rfl rfl rfl ?_) | refine gi_plain ?_ | refine gi_inBlock ?_))
        refine gi_pick [0, 2] [] rfl rfl rfl rfl rfl ?_
        skip
        exact go _ hs1 _ _ _ ⟨rfl, rfl, rfl, rfl, rfl, rfl, rfl, rfl, rfl, trivial⟩ ⟨rfl, rfl, trivial⟩ trivial
      · rw [notB_eq, Bool.not_eq_false'] at c2
        (repeat (first | refine r_end ?_ | (refine r_op ?_; first | refine r_pure hT rfl rfl rfl rfl rfl rfl ?_ | refine r_load hT rfl rfl rfl rfl rfl rfl rfl rfl rfl ?_)))
        refine gi_lt rfl (fun c3 => ?_) (fun c3 => ?_)
        · have hs1 : (⟨x.v, x.p, x.b, true⟩ : Src) = sn1 a st x := (if_pos ⟨c1, .inr c3⟩).symm
          skip
          refine gi_pick [0, 2, 1] [] rfl rfl rfl rfl rfl ?_
          refine gi_drawT 2 true 10 [] [(0, .p), (2, .p), (4, .p), (1, .t), (3, .t), (5, .t), (6, .o), (7, .p), (8, .p), (9, .p)] .it hm rfl (by kernel_rfl) (fun w1 K => ?_)
          (repeat (first | refine r_end ?_ | (refine r_op ?_; first | refine r_pure hT rfl rfl rfl rfl rfl rfl ?_ | refine r_load hT rfl rfl rfl rfl rfl rfl rfl rfl rfl ?_ | refine r_storeO hT rfl rfl rfl rfl rfl rfl rfl rfl rfl rfl rfl ?_) | refine gi_plain ?_ | refine gi_inBlock ?_))
          refine gi_pick [0, 2] [] rfl rfl rfl rfl rfl ?_
          skip
          exact go _ hs1 _ _ _ ⟨rfl, rfl, rfl, rfl, rfl, rfl, rfl, rfl, rfl, trivial⟩ ⟨rfl, rfl, trivial⟩ trivial
        · have hs1 : st = sn1 a st x := (if_neg (fun h => h.2.elim (fun h => by rw [c2] at h; cases h) c3)).symm
          (repeat (first | refine r_end ?_ | (refine r_op ?_; refine r_pure hT rfl rfl rfl rfl rfl rfl ?_) | refine gi_plain ?_ | refine gi_skip ?_ | refine gi_inBlock ?_))
          exact go _ hs1 _ _ _ ⟨rfl, rfl, rfl, rfl, rfl, rfl, rfl, rfl, rfl, trivial⟩ ⟨rfl, rfl, trivial⟩ trivial
    · have hs1 : st = sn1 a st x := (if_neg (fun h => by rw [c1] at h; cases h.1)).symm
      (repeat (first | refine r_end ?_ | (refine r_op ?_; first | refine r_pure hT rfl rfl rfl rfl rfl rfl ?_ | refine r_off rfl rfl rfl rfl rfl ?_) | refine gi_plain ?_ | refine gi_skip ?_ | refine gi_inBlock ?_ | (refine gi_cnd ?_; first | refine gi_true rfl ?_ | refine gi_false rfl ?_)))
      exact go _ hs1 _ _ _ ⟨rfl, rfl, rfl, rfl, rfl, rfl, rfl, rfl, rfl, trivial⟩ ⟨rfl, rfl, trivial⟩ trivial
  · have hil : i = m.sn.length := by omega
    subst hil
    rw [List.take_length] at hst
    (repeat (first | refine r_end ?_ | (refine r_op ?_; first | refine r_pure hT rfl rfl rfl rfl rfl rfl ?_ | refine r_load hT rfl rfl rfl rfl rfl rfl rfl rfl rfl ?_) | refine gi_seq ?_ | refine gi_plain ?_ | refine gi_block ?_ | refine gi_exit rfl ?_))
    refine gi_thaw 43 rfl ?_
    refine gi_loop (σ := Nat × Src) (fun s => [(45, I (s.1 : Int)), (44, I (m.sb.length : Int)), (43, rsSb m.sb), (2, .box 0 0), (4, .box 1 0), (1, I a), (5, I s.2.p), (6, I s.2.b), (7, Bo s.2.ok)]) (fun s => [hMf m, hV s.2.v]) (fun _ => []) (fun s => s.1 ≤ m.sb.length ∧ s.2 = (m.sb.take s.1).foldl (sb1 a) st) (fun s => m.sb.length - s.1) (0, st) ⟨Nat.zero_le _, rfl⟩ ⟨rfl, by show some (I (((m.sb.map Sb.row).length : Nat) : Int)) = _; rw [List.length_map], rfl, rfl, rfl, rfl, rfl, rfl, rfl, trivial⟩ ⟨rfl, rfl, trivial⟩ trivial (fun _ => rfl) (fun s hs next => ?_)
    obtain ⟨i, su⟩ := s
    obtain ⟨hi, hsu⟩ := hs
    simp only at hi hsu
    (repeat (first | refine r_end ?_ | (refine r_op ?_; refine r_pure hT rfl rfl rfl rfl rfl rfl ?_) | refine gi_seq ?_ | refine gi_plain ?_))
    refine gi_lt (p := (i : Int)) rfl (fun h3 => ?_) (fun h3 => ?_)
    · obtain ⟨x, hx⟩ : ∃ x, m.sb[i]? = some x := ⟨_, List.getElem?_eq_getElem (by omega)⟩
      have go : ∀ st', st' = sb1 a su x → ∀ F1 H1 S1, SubF [(45, I (wr .i64 ((i : Int) + 1))), (44, I (m.sb.length : Int)), (43, rsSb m.sb), (2, .box 0 0), (4, .box 1 0), (1, I a), (5, I st'.p), (6, I st'.b), (7, Bo st'.ok)] F1 → SubH [hMf m, hV st'.v] H1 → SubS [] S1 → GI _ _ F1 H1 S1 := fun st' hst' F1 H1 S1 hF hH hS => by
        refine next (i + 1, st') F1 H1 S1 ⟨by simp only; omega, by simp only; rw [foldl_tk hx, ← hsu, hst']⟩ (by simp only; omega) ?_ hH hS
        rw [wr_i64 (by omega) (by omega)] at hF
        simpa using hF
      clear next
      (repeat (first | refine gi_seq ?_ | refine gi_plain ?_ | refine gi_skip ?_ | refine gi_block ?_))
      refine r_idx (row := x.row) hT rfl rfl rfl rfl rfl rfl rfl rfl rfl rfl rfl rfl (by show (0 : Int) ≤ (i : Int); omega) (by simp [hx]) ?_
      (repeat (first | refine r_end ?_ | (refine r_op ?_; first | refine r_pure hT rfl rfl rfl rfl rfl rfl ?_ | refine r_load hT rfl rfl rfl rfl rfl rfl rfl rfl rfl ?_ | refine r_store hT rfl rfl rfl rfl rfl rfl rfl rfl rfl rfl ?_ | refine r_alloc hT rfl rfl rfl rfl rfl rfl rfl rfl rfl ?_) | refine gi_seq ?_ | refine gi_plain ?_))
      refine r_call (In_ok a x.p x.b) rfl rfl rfl rfl rfl rfl rfl rfl Try.func48 rfl rfl rfl pB ?_
      rintro r S1 ⟨rfl, rfl⟩
      (repeat ((refine r_op ?_; refine r_pure hT rfl rfl rfl rfl rfl rfl ?_)))
      refine r_case (d := 55) rfl (fun c1 => ?_) (fun c1 => ?_)
      · (repeat ((refine r_op ?_; refine r_pure hT rfl rfl rfl rfl rfl rfl ?_)))
        refine r_case (d := 58) rfl (fun c2 => ?_) (fun c2 => ?_)
        · rw [notB_eq, Bool.not_eq_true'] at c2
          have hs1 : (⟨⟨1, x.r⟩, x.p, x.b, true⟩ : Src) = sb1 a su x := (if_pos ⟨c1, .inl c2⟩).symm
          (repeat (first | refine r_end ?_ | (refine r_op ?_; first | refine r_pure hT rfl rfl rfl rfl rfl rfl ?_ | refine r_off rfl rfl rfl rfl rfl ?_) | (refine gi_cnd ?_; first | refine gi_true rfl ?_ | refine gi_false rfl ?_)))
          refine gi_pick [0, 2, 1] [] rfl rfl rfl rfl rfl ?_
          refine gi_drawT 2 true 11 [] [(0, .p), (3, .p), (5, .p), (1, .t), (2, .p), (4, .t), (6, .t), (7, .o), (8, .p), (9, .p), (10, .p)] .it hm rfl (by kernel_rfl) (fun w1 K => ?_)
          (repeat (first | refine r_end ?_ | (refine r_op ?_; first | refine r_pure hT rfl rfl rfl rfl rfl rfl ?_ | refine r_load hT rfl rfl rfl rfl rfl rfl rfl rfl rfl ?_ | refine r_storeO hT rfl rfl rfl rfl rfl rfl rfl rfl rfl rfl rfl ?_) | refine gi_plain ?_ | refine gi_inBlock ?_))
          refine gi_pick [0, 2] [] rfl rfl rfl rfl rfl ?_
          skip
          exact go _ hs1 _ _ _ ⟨rfl, rfl, rfl, rfl, rfl, rfl, rfl, rfl, rfl, trivial⟩ ⟨rfl, rfl, trivial⟩ trivial
        · rw [notB_eq, Bool.not_eq_false'] at c2
          (repeat (first | refine r_end ?_ | (refine r_op ?_; first | refine r_pure hT rfl rfl rfl rfl rfl rfl ?_ | refine r_load hT rfl rfl rfl rfl rfl rfl rfl rfl rfl ?_)))
          refine gi_lt rfl (fun c3 => ?_) (fun c3 => ?_)
          · have hs1 : (⟨⟨1, x.r⟩, x.p, x.b, true⟩ : Src) = sb1 a su x := (if_pos ⟨c1, .inr c3⟩).symm
            skip
            refine gi_pick [0, 2, 1] [] rfl rfl rfl rfl rfl ?_
            refine gi_drawT 2 true 11 [] [(0, .p), (3, .p), (5, .p), (1, .t), (2, .p), (4, .t), (6, .t), (7, .o), (8, .p), (9, .p), (10, .p)] .it hm rfl (by kernel_rfl) (fun w1 K => ?_)
            (repeat (first | refine r_end ?_ | (refine r_op ?_; first | refine r_pure hT rfl rfl rfl rfl rfl rfl ?_ | refine r_load hT rfl rfl rfl rfl rfl rfl rfl rfl rfl ?_ | refine r_storeO hT rfl rfl rfl rfl rfl rfl rfl rfl rfl rfl rfl ?_) | refine gi_plain ?_ | refine gi_inBlock ?_))
            refine gi_pick [0, 2] [] rfl rfl rfl rfl rfl ?_
            skip
            exact go _ hs1 _ _ _ ⟨rfl, rfl, rfl, rfl, rfl, rfl, rfl, rfl, rfl, trivial⟩ ⟨rfl, rfl, trivial⟩ trivial
          · have hs1 : su = sb1 a su x := (if_neg (fun h => h.2.elim (fun h => by rw [c2] at h; cases h) c3)).symm
            (repeat (first | refine r_end ?_ | (refine r_op ?_; refine r_pure hT rfl rfl rfl rfl rfl rfl ?_) | refine gi_plain ?_ | refine gi_skip ?_ | refine gi_inBlock ?_))
            exact go _ hs1 _ _ _ ⟨rfl, rfl, rfl, rfl, rfl, rfl, rfl, rfl, rfl, trivial⟩ ⟨rfl, rfl, trivial⟩ trivial
      · have hs1 : su = sb1 a su x := (if_neg (fun h => by rw [c1] at h; cases h.1)).symm
        (repeat (first | refine r_end ?_ | (refine r_op ?_; first | refine r_pure hT rfl rfl rfl rfl rfl rfl ?_ | refine r_off rfl rfl rfl rfl rfl ?_) | refine gi_plain ?_ | refine gi_skip ?_ | refine gi_inBlock ?_ | (refine gi_cnd ?_; first | refine gi_true rfl ?_ | refine gi_false rfl ?_)))
        exact go _ hs1 _ _ _ ⟨rfl, rfl, rfl, rfl, rfl, rfl, rfl, rfl, rfl, trivial⟩ ⟨rfl, rfl, trivial⟩ trivial
    · have hil : i = m.sb.length := by omega
      subst hil
      rw [List.take_length] at hsu
      have hfin : su = srcF a m := by unfold srcF; rw [hsu, hst]
      (repeat (first | refine r_end ?_ | (refine r_op ?_; first | refine r_pure hT rfl rfl rfl rfl rfl rfl ?_ | refine r_load hT rfl rfl rfl rfl rfl rfl rfl rfl rfl ?_ | refine r_store hT rfl rfl rfl rfl rfl rfl rfl rfl rfl rfl ?_) | refine gi_seq ?_ | refine gi_plain ?_ | refine gi_exit rfl ?_))
      refine gi_retW hT Try.func16 rfl rfl [] rfl rfl rfl rfl ?_
      exact ⟨by rw [← hfin], rfl⟩
end Go.Proofs.Ytmocggibcniggaa.Kt
namespace Go.Proofs.Ytmocggibcniggaa.Kt
open Go Kw Go.Proofs
set_option maxRecDepth 100000
/-! ### how Graph makes its list, step by step -/
def emR (j : Nat) : Ls := ⟨0, 1, (j : Int) + 1, (j : Int) + 1, 0, 0, 0, 0, [], 0, [], []⟩
/-- The routers, behind the pairs ahead of i: P is the number of pairs' numbers, non: no link is left out. -/
inductive Gp (k P : Nat) (non : Bool) : Nat → List Ls → Prop
  | start : Gp k P non 0 ((List.range k).map emR)
  | skip {i gs} : Gp k P non i gs → i + 2 < P → i < 36 → Gp k P non (i + 3) gs
  | one {i gs a b xa q} : Gp k P non i gs → i + 2 < P → i < 36 → a < k → b < k → a ≠ b → gs[a]? = some xa → q.k = 1 ∧ q.i = (b : Int) + 1 ∧ q.d = 1000 + (i : Int) ∧ 1 ≤ q.c ∧ q.c ≤ 5 → non = false → Gp k P non (i + 3) (gs.set a (xa.add q))
  | two {i gs a b xa xb q q'} : Gp k P non i gs → i + 2 < P → i < 36 → a < k → b < k → a ≠ b → gs[a]? = some xa → q.k = 1 ∧ q.i = (b : Int) + 1 ∧ q.d = 1000 + (i : Int) ∧ 1 ≤ q.c ∧ q.c ≤ 5 → (gs.set a (xa.add q))[b]? = some xb → q'.k = 1 ∧ q'.i = (a : Int) + 1 ∧ q'.d = 2000 + (i : Int) ∧ 1 ≤ q'.c ∧ q'.c ≤ 7 → Gp k P non (i + 3) ((gs.set a (xa.add q)).set b (xb.add q'))
/-- The routers and the networks, while the nets are gone through. -/
inductive Gn (k P Q : Nat) (non : Bool) : Nat → List Ls → List Ls → Option (Nat × List Int) → Prop
  | start {i gs} : Gp k P non i gs → Gn k P Q non 0 gs [] none
  | into {i gs ns} : Gn k P Q non i gs ns none → i < Q → i < 8 → Gn k P Q non i gs ns (some (0, []))
  | skip {i gs ns r rt} : Gn k P Q non i gs ns (some (r, rt)) → r < k → Gn k P Q non i gs ns (some (r + 1, rt))
  | half {i gs ns r rt z} : Gn k P Q non i gs ns (some (r, rt)) → r < k → non = false → z = (r : Int) + 1 → Gn k P Q non i gs ns (some (r + 1, rt ++ [z]))
  | full {i gs ns r rt x q z} : Gn k P Q non i gs ns (some (r, rt)) → r < k → gs[r]? = some x → q.k = 2 ∧ q.i = 256 * (101 + (i : Int)) ∧ q.d = q.i + 1 + (r : Int) ∧ 1 ≤ q.c ∧ q.c ≤ 4 → z = (r : Int) + 1 → Gn k P Q non i (gs.set r (x.add q)) ns (some (r + 1, rt ++ [z]))
  | out {i gs ns rt id adv} : Gn k P Q non i gs ns (some (k, rt)) → id = 256 * (101 + (i : Int)) → 1 ≤ adv ∧ adv ≤ (k : Int) → Gn k P Q non (i + 1) gs (ns ++ [⟨0, 2, id, adv, 0, 0, 0, 0, [], 24, rt, []⟩]) none
/-- The same, while the stubs are laid. -/
inductive Gf (k P Q : Nat) (non : Bool) : Nat → List Ls → List Ls → Prop
  | start {i gs ns} : Gn k P Q non i gs ns none → Gf k P Q non 0 gs ns
  | stub {r gs ns x q} : Gf k P Q non r gs ns → r < k → gs[r]? = some x → q.k = 3 ∧ q.i = 256 * (201 + (r : Int)) ∧ q.d = 4294967040 ∧ 1 ≤ q.c ∧ q.c ≤ 3 → Gf k P Q non (r + 1) (gs.set r (x.add q)) ns
theorem emR_snoc (k : Nat) : (List.range (k + 1)).map emR = (List.range k).map emR ++ [emR k] := by
  rw [List.range_succ, List.map_append]; rfl
structure Mde (n : Int) (P Q : Nat) (non : Bool) (l : List Ls) : Prop where
  ex : ∃ (k : Nat) (gs ns : List Ls), (k : Int) = 1 + n % 6 ∧ l = gs ++ ns ∧ Gf k P Q non k gs ns
abbrev RGm (n : Int) (P Q : Nat) (non : Bool) : AV → Hp → Sp → Prop := fun r H S => ∃ l, GrOk n l ∧ Mde n P Q non l ∧ r = .sl 0 ∧ H = [] ∧ S = [eO l]
theorem pGm {n : Int} {P Q : Nat} {non : Bool} : ∀ r H1 S1, RGm n P Q non r H1 S1 → stA r = true ∧ StH H1 ∧ StS S1 := fun r H S ⟨l, h, _, h1, h2, h3⟩ => pG r H S ⟨l, h, h1, h2, h3⟩
theorem cost_rm1 {e : Int} (m : Int) (h0 : 0 ≤ e) (hm : 0 < m) (hm' : m ≤ 6) : 1 ≤ wr .i64 (1 + rm e m) ∧ wr .i64 (1 + rm e m) ≤ m := by
  rw [rm_pos h0]
  have := Int.emod_nonneg e (show m ≠ 0 by omega)
  have := Int.emod_lt_of_pos e hm
  rw [wr_i64 (by omega) (by omega)]
  omega
end Go.Proofs.Ytmocggibcniggaa.Kt
namespace Go.Proofs.Ytmocggibcniggaa.Kt
open Go Kw Go.Proofs
attribute [local irreducible] Kw.GI Kw.GR Kw.FnR Kw.FnX
set_option maxHeartbeats 16000000
set_option maxRecDepth 100000
theorem eO_link2 {gs ns : List Ls} {a : Nat} (ha : a < gs.length) (x : Ls) (q : Lk) (T : Sp) : (some (⟨51, 12, (((gs ++ ns).map Ls.rowO).set a (x.rowO.set 8 .any)).set a ((x.rowO.set 8 .any).set 8 (.os 54 4 (x.lk.map Lk.row ++ [q.row]))), true⟩ : SE) :: T : Sp) = eO (gs.set a (x.add q) ++ ns) :: T := by
  rw [eO_link x q T, set_app_left ha]
theorem lk1 {i d c : Int} (h : 0 ≤ c ∧ c ≤ 10) : LkOk ⟨1, i, d, c⟩ := ⟨h.1, h.2, fun e => by cases e⟩
theorem lk2 {i d c : Int} (h : 0 ≤ c ∧ c ≤ 10) : LkOk ⟨2, i, d, c⟩ := ⟨h.1, h.2, fun e => by cases e⟩
theorem idx_nat {k : Nat} {v : Int} (hk : 0 < k) (hv : 0 ≤ v) : ∃ a : Nat, rm v k = a ∧ a < k := by
  rw [rm_pos hv]
  have h1 := Int.emod_nonneg v (show (k : Int) ≠ 0 by omega)
  have h2 := Int.emod_lt_of_pos v (show (0 : Int) < k by omega)
  exact ⟨(v % k).toNat, by omega, by omega⟩
theorem ne_nil {α : Type} {l : List α} {t : Nat} {o : α} (h : l[t]? = some o) : l.isEmpty = false := by cases l with
  | nil => simp at h
  | cons => rfl
theorem GraphM_ok (n : Int) (hn : 0 ≤ n ∧ n ≤ 255) (ps qs : List Int) (hps : ∀ p ∈ ps, 0 ≤ p ∧ p ≤ 255) (hqs : ∀ p ∈ qs, 0 ≤ p ∧ p ≤ 255) (one : List Bool) : FnX Try.prog 28 [u8 n, rs8 ps, rs8 qs, rsB one] [] [] (RGm n ps.length qs.length one.isEmpty) := by
  refine fnX_intro (T := TT) (n := 235) Try.func28 rfl rfl rfl (fun w X Z Y B => ?_)
  obtain ⟨k, hk⟩ : ∃ k : Nat, (k : Int) = 1 + n % 6 := ⟨(1 + n % 6).toNat, by omega⟩
  have hk1 : 1 ≤ k ∧ k ≤ 6 := by omega
  (repeat (first | refine r_end ?_ | (refine r_op ?_; refine r_pure hT rfl rfl rfl rfl rfl rfl ?_) | refine gi_seq ?_ | refine gi_plain_ne 2 rfl ?_))
  refine gi_turn (d := 9) (y := I (k : Int)) rfl (by rw [wr_i64 (n := n) (by omega) (by omega), rm_pos hn.1, wr_i64 (by omega) (by omega), hk]) ?_
  (repeat (first | refine r_end ?_ | (refine r_op ?_; refine r_pure hT rfl rfl rfl rfl rfl rfl ?_) | refine gi_seq ?_ | refine gi_plain ?_ | refine gi_block ?_))
  refine gi_adopt (e := 51) (sz := 12) 10 rfl ?_
  refine gi_rows 0 (se' := seO []) rfl ⟨rfl, rfl, rfl⟩ rows_nest ?_
  refine gi_loop (σ := Nat × List Ls) (fun s => [(11, I ((s.1 : Int) + 1)), (9, I k), (10, .sl 0), (1, rs8 ps), (2, rs8 qs), (3, rsB one)]) (fun _ => []) (fun s => [eO s.2]) (fun s => s.1 ≤ k ∧ Gs s.1 0 s.2 ∧ s.2 = (List.range s.1).map emR) (fun s => k - s.1) (0, []) ⟨Nat.zero_le _, Gs.nil, rfl⟩ ⟨rfl, rfl, rfl, rfl, rfl, rfl, trivial⟩ trivial ⟨rfl, trivial⟩ (fun _ => rfl) (fun s hs next => ?_)
  obtain ⟨j, gs⟩ := s
  obtain ⟨hj, hG, hM⟩ := hs
  simp only at hj hG hM
  have hgl := hG.len
  (repeat (first | refine r_end ?_ | (refine r_op ?_; refine r_pure hT rfl rfl rfl rfl rfl rfl ?_) | refine gi_seq ?_ | refine gi_plain ?_))
  refine gi_le rfl (fun h3 => ?_) (fun h3 => ?_)
  · (repeat (first | (refine r_op ?_; first | refine r_pure hT rfl rfl rfl rfl rfl rfl ?_ | refine r_lit hT rfl rfl rfl rfl rfl rfl rfl rfl rfl rfl rfl rfl rfl ?_) | refine gi_seq ?_ | refine gi_plain ?_ | refine gi_skip ?_ | refine gi_block ?_))
    refine r_append hT rfl rfl rfl rfl rfl rfl rfl rfl rfl rfl rfl rfl rfl rfl rfl rfl rfl (by simp only [List.length_cons, List.length_nil, List.length_map, maxLen]; exact ⟨by omega, by show _ * 144 ≤ _; omega⟩) ?_
    (repeat (first | refine r_end ?_ | (refine r_op ?_; refine r_pure hT rfl rfl rfl rfl rfl rfl ?_) | refine gi_plain ?_ | refine gi_inBlock ?_))
    refine gi_rows 0 (se' := seO (gs ++ [⟨0, 1, j + 1, j + 1, 0, 0, 0, 0, [], 0, [], []⟩])) rfl ⟨rfl, rfl, by simp⟩ (by rw [eO_snoc gs _ _ rfl]; exact rows_last (raw_le (le_fs 1))) ?_
    refine next (j + 1, gs ++ [⟨0, 1, j + 1, j + 1, 0, 0, 0, 0, [], 0, [], []⟩]) _ _ _ ⟨by simp only; omega, hG.snoc, by rw [emR_snoc, ← hM]; rfl⟩ (by simp only; omega) ⟨?_, rfl, rfl, rfl, rfl, rfl, trivial⟩ trivial ⟨rfl, trivial⟩
    show some (I (wr .i64 ((j : Int) + 1 + 1))) = _
    rw [wr_i64 (by omega) (by omega)]
    simp
  obtain rfl : j = k := by omega
  (repeat (first | refine r_end ?_ | (refine r_op ?_; refine r_pure hT rfl rfl rfl rfl rfl rfl ?_) | refine gi_seq ?_ | refine gi_plain ?_ | refine gi_block ?_ | refine gi_exit rfl ?_))
  refine gi_loop (σ := Nat × Nat × List Ls) (fun s => [(13, I s.1), (12, I s.2.1), (9, I j), (10, .sl 0), (1, rs8 ps), (2, rs8 qs), (3, rsB one)]) (fun _ => []) (fun s => [eO s.2.2]) (fun s => s.1 ≤ 40 ∧ s.2.1 ≤ s.1 ∧ Gs j s.1 s.2.2 ∧ Gp j ps.length one.isEmpty s.1 s.2.2) (fun s => 50 - s.1) (0, 0, gs) ⟨Nat.zero_le _, Nat.zero_le _, hG, by rw [hM]; exact .start⟩ ⟨rfl, rfl, rfl, rfl, rfl, rfl, rfl, trivial⟩ trivial ⟨rfl, trivial⟩ (fun _ => rfl) (fun s hs next => ?_)
  obtain ⟨i, t, gs⟩ := s
  obtain ⟨hi, ht, hG, hM⟩ := hs
  simp only at hi ht hG hM
  have hgl := hG.len
  (repeat (refine gi_seq ?_))
  apply gi_cut (σ := Unit) (fun _ => [(12, I t), (9, I j), (10, .sl 0), (1, rs8 ps), (2, rs8 qs), (3, rsB one)]) (fun _ => []) (fun _ => [eO gs]) (fun _ => True) (fun _ => rfl)
  case first =>
    intro fin
    (repeat (first | (refine r_op ?_; refine r_pure hT rfl rfl rfl rfl rfl rfl ?_) | refine gi_plain ?_))
    refine r_case (d := 42) rfl (fun c1 => ?_) (fun c1 => ?_)
    · rw [ltB_eq, wr_i64 (by omega) (by omega)] at c1
      have c1 := of_decide_eq_true c1
      rw [List.length_map] at c1
      (repeat (first | refine r_end ?_ | (refine r_op ?_; refine r_pure hT rfl rfl rfl rfl rfl rfl ?_)))
      refine gi_lt rfl (fun h4 => ?_) (fun h4 => ?_)
      · obtain ⟨p0, hp0⟩ : ∃ x, ps[i]? = some x := ⟨_, List.getElem?_eq_getElem (by omega)⟩
        obtain ⟨p1, hp1⟩ : ∃ x, ps[i + 1]? = some x := ⟨_, List.getElem?_eq_getElem (by omega)⟩
        obtain ⟨p2, hp2⟩ : ∃ x, ps[i + 2]? = some x := ⟨_, List.getElem?_eq_getElem (by omega)⟩
        have r0 := hps p0 (List.mem_of_getElem? hp0)
        have r1 := hps p1 (List.mem_of_getElem? hp1)
        have r2 := hps p2 (List.mem_of_getElem? hp2)
        obtain ⟨a, ha, hal⟩ := idx_nat (k := j) (by omega) r0.1
        obtain ⟨b, hb, hbl⟩ := idx_nat (k := j) (by omega) r1.1
        (repeat (first | refine gi_seq ?_ | refine gi_skip ?_ | refine gi_block ?_))
        refine gi_drawM [] [(0, .p), (1, .p), (2, .p), (5, .p), (7, .p), (8, .p), (9, .p), (10, .p), (13, .p), (3, .t), (4, .p), (6, .p), (15, .p), (11, .t), (12, .p), (14, .p), (16, .p)] [0, 0, 3, 4, 8, 0, 48, 0, 0, 256, 640, 1024, 2048, 0, 12288, 127, 65535] [0, 0, 3, 4, 8, 0, 48, 0, 0, 256, 640, 1024, 2048, 0, 12288, 64, 16384] Kt.hm rfl (by kernel_rfl) (fun w1 K => ?_)
        (repeat ((refine r_op ?_; refine r_pure hT rfl rfl rfl rfl rfl rfl ?_)))
        refine r_idx (row := [.v (.int .u8 p0)]) hT rfl rfl rfl rfl rfl rfl rfl rfl rfl rfl rfl rfl (by omega) (by simp [hp0]) ?_
        (repeat ((refine r_op ?_; refine r_pure hT rfl rfl rfl rfl rfl rfl ?_)))
        refine r_idx (row := [.v (.int .u8 p1)]) hT rfl rfl rfl rfl rfl rfl rfl rfl rfl rfl rfl rfl (by rw [wr_i64 (by omega) (by omega)]; omega) (by rw [wr_i64 (by omega) (by omega), show ((i : Int) + 1).toNat = i + 1 by omega]; simp [hp1]) ?_
        (repeat ((refine r_op ?_; first | refine r_pure hT rfl rfl rfl rfl rfl rfl ?_ | refine r_load hT rfl rfl rfl rfl rfl rfl rfl rfl rfl ?_)))
        refine r_rem (n := a) (p' := (j : Int)) rfl rfl rfl rfl rfl rfl rfl rfl (by omega) (by rw [wr_i64 (n := p0) (by omega) (by omega), ha]) ?_
        (repeat ((refine r_op ?_; first | refine r_pure hT rfl rfl rfl rfl rfl rfl ?_ | refine r_load hT rfl rfl rfl rfl rfl rfl rfl rfl rfl ?_)))
        refine r_rem (n := b) (p' := (j : Int)) rfl rfl rfl rfl rfl rfl rfl rfl (by omega) (by rw [wr_i64 (n := p1) (by omega) (by omega), hb]) ?_
        (repeat (first | refine r_end ?_ | (refine r_op ?_; refine r_pure hT rfl rfl rfl rfl rfl rfl ?_) | refine gi_seq ?_ | refine gi_plain ?_))
        refine gi_eq rfl (fun h5 => ?_) (fun h5 => ?_)
        · (repeat (first | refine r_end ?_ | (refine r_op ?_; refine r_pure hT rfl rfl rfl rfl rfl rfl ?_) | refine gi_plain ?_ | refine gi_exit rfl ?_))
          refine next (i + 3, t, gs) _ _ _ ⟨by simp only; omega, by simp only; omega, hG.mono (by simp only; omega), hM.skip (by omega) (by omega)⟩ (by simp only; omega) ⟨?_, rfl, rfl, rfl, rfl, rfl, rfl, trivial⟩ trivial ⟨rfl, trivial⟩
          show some (I (wr .i64 ((i : Int) + 3))) = _
          rw [wr_i64 (by omega) (by omega)]
          simp
        (repeat (first | (refine r_op ?_; refine r_pure hT rfl rfl rfl rfl rfl rfl ?_) | refine gi_seq ?_ | refine gi_plain ?_ | refine gi_skip ?_))
        refine r_idx (row := [.v (.int .u8 p2)]) hT rfl rfl rfl rfl rfl rfl rfl rfl rfl rfl rfl rfl (by rw [wr_i64 (by omega) (by omega)]; omega) (by rw [wr_i64 (by omega) (by omega), show ((i : Int) + 2).toNat = i + 2 by omega]; simp [hp2]) ?_
        (repeat (first | refine r_end ?_ | (refine r_op ?_; first | refine r_pure hT rfl rfl rfl rfl rfl rfl ?_ | refine r_load hT rfl rfl rfl rfl rfl rfl rfl rfl rfl ?_) | refine gi_seq ?_))
        obtain ⟨c, hc⟩ : ∃ c : Int, c = wr .i64 (1 + rm (wr .i64 p2) 5) := ⟨_, rfl⟩
        have hcr : 1 ≤ c ∧ c ≤ 5 := by rw [hc, wr_i64 (n := p2) (by omega) (by omega)]; exact cost_rm1 5 r2.1 (by omega) (by omega)
        refine gi_turn (d := 16) (y := I c) rfl (by rw [hc]) ?_
        obtain ⟨xa, hxa⟩ : ∃ x, gs[a]? = some x := ⟨_, List.getElem?_eq_getElem (by omega)⟩
        have hla := (hG.el a xa hxa).2.2
        (repeat (first | (refine r_op ?_; refine r_pure hT rfl rfl rfl rfl rfl rfl ?_) | refine gi_plain ?_))
        refine r_idxS hT rfl rfl rfl rfl rfl rfl rfl rfl rfl rfl rfl rfl rfl (by omega) (by show a < ((gs).map Ls.rowO).length; simp only [List.length_map, List.length_set, List.length_append]; omega) ?_
        (repeat ((refine r_op ?_; refine r_pure hT rfl rfl rfl rfl rfl rfl ?_)))
        refine r_takeS (row := xa.rowO) hT rfl rfl rfl rfl rfl rfl rfl rfl (by show ((gs).map Ls.rowO)[a]? = _; rw [List.getElem?_map, hxa]; rfl) rfl rfl rfl rfl ?_
        (repeat ((refine r_op ?_; first | refine r_pure hT rfl rfl rfl rfl rfl rfl ?_ | refine r_lit hT rfl rfl rfl rfl rfl rfl rfl rfl rfl rfl rfl rfl rfl ?_)))
        refine r_append hT rfl rfl rfl rfl rfl rfl rfl rfl rfl rfl rfl rfl rfl rfl rfl rfl rfl (by simp only [List.length_cons, List.length_nil, List.length_map, maxLen]; exact ⟨by omega, by show _ * 32 ≤ _; omega⟩) ?_
        skip
        refine r_idxS hT rfl rfl rfl rfl rfl rfl rfl rfl rfl rfl rfl rfl rfl (by omega) (by show a < (((gs).map Ls.rowO).set a (xa.rowO.set 8 .any)).length; simp only [List.length_map, List.length_set, List.length_append]; omega) ?_
        (repeat ((refine r_op ?_; refine r_pure hT rfl rfl rfl rfl rfl rfl ?_)))
        refine r_giveS (row := xa.rowO.set 8 .any) hT rfl rfl rfl rfl rfl rfl rfl rfl rfl rfl rfl rfl rfl rfl (List.getElem?_set_self (by simp only [List.length_map, List.length_append]; omega)) rfl ?_
        refine r_eqS _ (eO_link (a := a) xa ⟨_, _, _, _⟩ _) ?_
        have hG2 := hG.add hxa (lk1 (i := wr .i64 ((b : Int) + 1)) (d := wr .i64 (1000 + (i : Int))) (c := c) ⟨by omega, by omega⟩)
        have hab : a ≠ b := by omega
        have hq1 : wr .i64 ((b : Int) + 1) = (b : Int) + 1 ∧ wr .i64 (1000 + (i : Int)) = 1000 + (i : Int) := ⟨wr_i64 (by omega) (by omega), wr_i64 (by omega) (by omega)⟩
        have hM1 : one.isEmpty = false → Gp j ps.length one.isEmpty (i + 3) _ := fun hz => hM.one (by omega) (by omega) hal hbl hab hxa (q := ⟨1, wr .i64 ((b : Int) + 1), wr .i64 (1000 + (i : Int)), c⟩) ⟨rfl, hq1.1, hq1.2, hcr.1, hcr.2⟩ hz
        have hM2 := fun (xb : Ls) (q' : Lk) hxb hq' => hM.two (by omega) (by omega) hal hbl hab hxa (q := ⟨1, wr .i64 ((b : Int) + 1), wr .i64 (1000 + (i : Int)), c⟩) (xb := xb) (q' := q') ⟨rfl, hq1.1, hq1.2, hcr.1, hcr.2⟩ hxb hq'
        generalize gs.set a (xa.add _) = g2 at hG2 hM1 hM2 ⊢
        have hgl2 := hG2.len
        obtain ⟨xb, hxb⟩ : ∃ x, g2[b]? = some x := ⟨_, List.getElem?_eq_getElem (by omega)⟩
        have hlb := (hG2.el b xb hxb).2.2
        have hcr2 : 1 ≤ wr .i64 (c + rm i 3) ∧ wr .i64 (c + rm i 3) ≤ 7 := by
          rw [rm_pos (by omega)]
          have h6 := Int.emod_nonneg (i : Int) (show (3 : Int) ≠ 0 by omega)
          have h7 := Int.emod_lt_of_pos (i : Int) (show (0 : Int) < 3 by omega)
          rw [wr_i64 (by omega) (by omega)]; omega
        (repeat (first | refine r_end ?_ | (refine r_op ?_; refine r_pure hT rfl rfl rfl rfl rfl rfl ?_) | refine gi_seq ?_ | refine gi_plain ?_))
        refine r_case (d := 95) rfl (fun c2 => ?_) (fun c2 => ?_)
        · (repeat (first | refine r_end ?_ | (refine r_op ?_; first | refine r_pure hT rfl rfl rfl rfl rfl rfl ?_ | refine r_off rfl rfl rfl rfl rfl ?_) | refine gi_plain ?_ | (refine gi_cnd ?_; first | refine gi_true rfl ?_ | refine gi_false rfl ?_)))
          refine r_idxS hT rfl rfl rfl rfl rfl rfl rfl rfl rfl rfl rfl rfl rfl (by omega) (by show b < ((g2).map Ls.rowO).length; simp only [List.length_map, List.length_set, List.length_append]; omega) ?_
          (repeat ((refine r_op ?_; refine r_pure hT rfl rfl rfl rfl rfl rfl ?_)))
          refine r_takeS (row := xb.rowO) hT rfl rfl rfl rfl rfl rfl rfl rfl (by show ((g2).map Ls.rowO)[b]? = _; rw [List.getElem?_map, hxb]; rfl) rfl rfl rfl rfl ?_
          (repeat ((refine r_op ?_; first | refine r_pure hT rfl rfl rfl rfl rfl rfl ?_ | refine r_lit hT rfl rfl rfl rfl rfl rfl rfl rfl rfl rfl rfl rfl rfl ?_)))
          refine r_append hT rfl rfl rfl rfl rfl rfl rfl rfl rfl rfl rfl rfl rfl rfl rfl rfl rfl (by simp only [List.length_cons, List.length_nil, List.length_map, maxLen]; exact ⟨by omega, by show _ * 32 ≤ _; omega⟩) ?_
          skip
          refine r_idxS hT rfl rfl rfl rfl rfl rfl rfl rfl rfl rfl rfl rfl rfl (by omega) (by show b < (((g2).map Ls.rowO).set b (xb.rowO.set 8 .any)).length; simp only [List.length_map, List.length_set, List.length_append]; omega) ?_
          (repeat ((refine r_op ?_; refine r_pure hT rfl rfl rfl rfl rfl rfl ?_)))
          refine r_giveS (row := xb.rowO.set 8 .any) hT rfl rfl rfl rfl rfl rfl rfl rfl rfl rfl rfl rfl rfl rfl (List.getElem?_set_self (by simp only [List.length_map, List.length_append]; omega)) rfl ?_
          refine r_eqS _ (eO_link (a := b) xb ⟨_, _, _, _⟩ _) ?_
          have hG3 := hG2.add hxb (lk1 (i := wr .i64 ((a : Int) + 1)) (d := wr .i64 (2000 + (i : Int))) (c := wr .i64 (c + rm i 3)) ⟨by omega, by omega⟩)
          have hM3 := hM2 xb ⟨1, wr .i64 ((a : Int) + 1), wr .i64 (2000 + (i : Int)), wr .i64 (c + rm i 3)⟩ hxb ⟨rfl, wr_i64 (by omega) (by omega), wr_i64 (by omega) (by omega), hcr2.1, hcr2.2⟩
          clear hM1 hM2
          generalize g2.set b (xb.add _) = g3 at hG3 hM3 ⊢
          (repeat (first | refine r_end ?_ | (refine r_op ?_; refine r_pure hT rfl rfl rfl rfl rfl rfl ?_) | refine gi_plain ?_ | refine gi_inBlock ?_))
          refine next (i + 3, t + 1, g3) _ _ _ ⟨by simp only; omega, by simp only; omega, hG3.mono (by simp only; omega), hM3⟩ (by simp only; omega) ⟨?_, ?_, rfl, rfl, rfl, rfl, rfl, trivial⟩ trivial ⟨rfl, trivial⟩
          · show some (I (wr .i64 ((i : Int) + 3))) = _
            rw [wr_i64 (by omega) (by omega)]
            simp
          · show some (I (wr .i64 ((t : Int) + 1))) = _
            rw [wr_i64 (by omega) (by omega)]
            simp
        · rw [leB_eq] at c2
          have c2 := of_decide_eq_false c2
          rw [List.length_map] at c2
          simp only at c2
          obtain ⟨o, ho⟩ : ∃ o, one[t]? = some o := ⟨_, List.getElem?_eq_getElem (by omega)⟩
          (repeat ((refine r_op ?_; refine r_pure hT rfl rfl rfl rfl rfl rfl ?_)))
          refine r_idx (row := [.v (.bool o)]) hT rfl rfl rfl rfl rfl rfl rfl rfl rfl rfl rfl rfl (by omega) (by simp [ho]) ?_
          (repeat (first | refine r_end ?_ | (refine r_op ?_; first | refine r_pure hT rfl rfl rfl rfl rfl rfl ?_ | refine r_load hT rfl rfl rfl rfl rfl rfl rfl rfl rfl ?_)))
          refine gi_cond rfl (fun c3 => ?_) (fun c3 => ?_)
          · (repeat (first | (refine r_op ?_; refine r_pure hT rfl rfl rfl rfl rfl rfl ?_) | refine gi_plain ?_))
            refine r_idxS hT rfl rfl rfl rfl rfl rfl rfl rfl rfl rfl rfl rfl rfl (by omega) (by show b < ((g2).map Ls.rowO).length; simp only [List.length_map, List.length_set, List.length_append]; omega) ?_
            (repeat ((refine r_op ?_; refine r_pure hT rfl rfl rfl rfl rfl rfl ?_)))
            refine r_takeS (row := xb.rowO) hT rfl rfl rfl rfl rfl rfl rfl rfl (by show ((g2).map Ls.rowO)[b]? = _; rw [List.getElem?_map, hxb]; rfl) rfl rfl rfl rfl ?_
            (repeat ((refine r_op ?_; first | refine r_pure hT rfl rfl rfl rfl rfl rfl ?_ | refine r_lit hT rfl rfl rfl rfl rfl rfl rfl rfl rfl rfl rfl rfl rfl ?_)))
            refine r_append hT rfl rfl rfl rfl rfl rfl rfl rfl rfl rfl rfl rfl rfl rfl rfl rfl rfl (by simp only [List.length_cons, List.length_nil, List.length_map, maxLen]; exact ⟨by omega, by show _ * 32 ≤ _; omega⟩) ?_
            skip
            refine r_idxS hT rfl rfl rfl rfl rfl rfl rfl rfl rfl rfl rfl rfl rfl (by omega) (by show b < (((g2).map Ls.rowO).set b (xb.rowO.set 8 .any)).length; simp only [List.length_map, List.length_set, List.length_append]; omega) ?_
            (repeat ((refine r_op ?_; refine r_pure hT rfl rfl rfl rfl rfl rfl ?_)))
            refine r_giveS (row := xb.rowO.set 8 .any) hT rfl rfl rfl rfl rfl rfl rfl rfl rfl rfl rfl rfl rfl rfl (List.getElem?_set_self (by simp only [List.length_map, List.length_append]; omega)) rfl ?_
            refine r_eqS _ (eO_link (a := b) xb ⟨_, _, _, _⟩ _) ?_
            have hG3 := hG2.add hxb (lk1 (i := wr .i64 ((a : Int) + 1)) (d := wr .i64 (2000 + (i : Int))) (c := wr .i64 (c + rm i 3)) ⟨by omega, by omega⟩)
            have hM3 := hM2 xb ⟨1, wr .i64 ((a : Int) + 1), wr .i64 (2000 + (i : Int)), wr .i64 (c + rm i 3)⟩ hxb ⟨rfl, wr_i64 (by omega) (by omega), wr_i64 (by omega) (by omega), hcr2.1, hcr2.2⟩
            clear hM1 hM2
            generalize g2.set b (xb.add _) = g3 at hG3 hM3 ⊢
            (repeat (first | refine r_end ?_ | (refine r_op ?_; refine r_pure hT rfl rfl rfl rfl rfl rfl ?_) | refine gi_plain ?_ | refine gi_inBlock ?_))
            refine next (i + 3, t + 1, g3) _ _ _ ⟨by simp only; omega, by simp only; omega, hG3.mono (by simp only; omega), hM3⟩ (by simp only; omega) ⟨?_, ?_, rfl, rfl, rfl, rfl, rfl, trivial⟩ trivial ⟨rfl, trivial⟩
            · show some (I (wr .i64 ((i : Int) + 3))) = _
              rw [wr_i64 (by omega) (by omega)]
              simp
            · show some (I (wr .i64 ((t : Int) + 1))) = _
              rw [wr_i64 (by omega) (by omega)]
              simp
          · (repeat (first | refine r_end ?_ | (refine r_op ?_; refine r_pure hT rfl rfl rfl rfl rfl rfl ?_) | refine gi_plain ?_ | refine gi_skip ?_ | refine gi_inBlock ?_))
            refine next (i + 3, t + 1, g2) _ _ _ ⟨by simp only; omega, by simp only; omega, hG2.mono (by simp only; omega), hM1 (ne_nil ho)⟩ (by simp only; omega) ⟨?_, ?_, rfl, rfl, rfl, rfl, rfl, trivial⟩ trivial ⟨rfl, trivial⟩
            · show some (I (wr .i64 ((i : Int) + 3))) = _
              rw [wr_i64 (by omega) (by omega)]
              simp
            · show some (I (wr .i64 ((t : Int) + 1))) = _
              rw [wr_i64 (by omega) (by omega)]
              simp
      · (repeat (first | refine gi_seq ?_ | refine gi_exit rfl ?_))
        exact fin () _ _ _ trivial ⟨rfl, rfl, rfl, rfl, rfl, rfl, trivial⟩ trivial ⟨rfl, trivial⟩
    · (repeat (first | refine r_end ?_ | (refine r_op ?_; first | refine r_pure hT rfl rfl rfl rfl rfl rfl ?_ | refine r_off rfl rfl rfl rfl rfl ?_) | refine gi_seq ?_ | refine gi_exit rfl ?_ | (refine gi_cnd ?_; first | refine gi_true rfl ?_ | refine gi_false rfl ?_)))
      exact fin () _ _ _ trivial ⟨rfl, rfl, rfl, rfl, rfl, rfl, trivial⟩ trivial ⟨rfl, trivial⟩
  case after =>
    intro _ _
    (repeat (first | refine r_end ?_ | (refine r_op ?_; refine r_pure hT rfl rfl rfl rfl rfl rfl ?_) | refine gi_plain ?_ | refine gi_block ?_))
    refine gi_loop (σ := Nat × Nat × List Ls × List Ls) (fun s => [(17, I s.1), (12, I s.2.1), (9, I j), (10, .sl 0), (1, rs8 ps), (2, rs8 qs), (3, rsB one)]) (fun _ => []) (fun s => [eO (s.2.2.1 ++ s.2.2.2)]) (fun s => s.1 ≤ 8 ∧ s.2.1 ≤ 40 + 8 * s.1 ∧ Gs j (40 + 8 * s.1) s.2.2.1 ∧ NsOk s.2.2.2 ∧ s.2.2.2.length = s.1 ∧ Gn j ps.length qs.length one.isEmpty s.1 s.2.2.1 s.2.2.2 none) (fun s => 10 - s.1) (0, t, gs, []) ⟨Nat.zero_le _, by simp only; omega, hG.mono (by simp only; omega), NsOk.nil, rfl, .start hM⟩ ⟨rfl, rfl, rfl, rfl, rfl, rfl, rfl, trivial⟩ trivial ⟨by rw [List.append_nil], trivial⟩ (fun _ => rfl) (fun s hs next => ?_)
    obtain ⟨i2, t, gs, ns⟩ := s
    obtain ⟨hi2, ht, hG, hN, hnl, hM⟩ := hs
    simp only at hi2 ht hG hN hnl hM
    have hgl := hG.len
    (repeat (refine gi_seq ?_))
    apply gi_cut (σ := Unit) (fun _ => [(12, I t), (9, I j), (10, .sl 0), (1, rs8 ps), (2, rs8 qs), (3, rsB one)]) (fun _ => []) (fun _ => [eO (gs ++ ns)]) (fun _ => True) (fun _ => rfl)
    case first =>
      intro fin
      (repeat (first | (refine r_op ?_; refine r_pure hT rfl rfl rfl rfl rfl rfl ?_) | refine gi_plain ?_))
      refine r_case (d := 128) rfl (fun c1 => ?_) (fun c1 => ?_)
      · rw [ltB_eq] at c1
        have c1 := of_decide_eq_true c1
        rw [List.length_map] at c1
        (repeat (first | refine r_end ?_ | (refine r_op ?_; refine r_pure hT rfl rfl rfl rfl rfl rfl ?_)))
        refine gi_lt rfl (fun h4 => ?_) (fun h4 => ?_)
        · obtain ⟨p0, hp0⟩ : ∃ x, qs[i2]? = some x := ⟨_, List.getElem?_eq_getElem (by omega)⟩
          have r0 := hqs p0 (List.mem_of_getElem? hp0)
          obtain ⟨a, ha, hal⟩ := idx_nat (k := j) (by omega) r0.1
          obtain ⟨id, hid⟩ : ∃ id : Int, id = (101 + (i2 : Int)) * 256 := ⟨_, rfl⟩
          have hidw : wr .i64 (wr .i64 (101 + (i2 : Int)) * 2 ^ (min (8 : Int).toNat (IntKind.bits .i64))) = id := by
            rw [wr_i64 (n := 101 + (i2 : Int)) (by omega) (by omega), show (2 : Int) ^ (min (8 : Int).toNat (IntKind.bits .i64)) = 256 from rfl, wr_i64 (by omega) (by omega), hid]
          (repeat (first | (refine r_op ?_; refine r_pure hT rfl rfl rfl rfl rfl rfl ?_) | refine gi_seq ?_ | refine gi_plain ?_ | refine gi_skip ?_ | refine gi_block ?_))
          refine r_shl (n := id) rfl rfl rfl rfl rfl rfl rfl rfl (by decide) hidw ?_
          (repeat ((refine r_op ?_; refine r_pure hT rfl rfl rfl rfl rfl rfl ?_)))
          refine r_idx (row := [.v (.int .u8 p0)]) hT rfl rfl rfl rfl rfl rfl rfl rfl rfl rfl rfl rfl (by omega) (by simp [hp0]) ?_
          (repeat ((refine r_op ?_; first | refine r_pure hT rfl rfl rfl rfl rfl rfl ?_ | refine r_load hT rfl rfl rfl rfl rfl rfl rfl rfl rfl ?_)))
          refine r_rem (n := a) (p' := (j : Int)) rfl rfl rfl rfl rfl rfl rfl rfl (by omega) (by rw [wr_i64 (n := p0) (by omega) (by omega), ha]) ?_
          (repeat (first | refine r_end ?_ | (refine r_op ?_; first | refine r_pure hT rfl rfl rfl rfl rfl rfl ?_ | refine r_store hT rfl rfl rfl rfl rfl rfl rfl rfl rfl rfl ?_ | refine r_alloc hT rfl rfl rfl rfl rfl rfl rfl rfl rfl ?_) | refine gi_seq ?_ | refine gi_plain ?_ | refine gi_block ?_))
          refine gi_adoptH (e := 3) (sz := 1) 0 10 rfl rfl ?_
          refine gi_loop (σ := Nat × Nat × List Ls × List Int) (fun s => [(19, I s.1), (12, I s.2.1), (17, I i2), (18, .box 0 0), (9, I j), (10, .sl 0), (1, rs8 ps), (2, rs8 qs), (3, rsB one)]) (fun _ => [some (51, [I 0, I 2, I id, I (wr .i64 (1 + a)), I 0, I 0, I 0, I 0, .r (.v (.slice none 0 0)), I 24, .sl 1, .r (.v (.slice none 0 0))])]) (fun s => [eO (s.2.2.1 ++ ns), eN s.2.2.2]) (fun s => s.1 ≤ j ∧ s.2.1 ≤ 40 + 8 * i2 + s.1 ∧ Gs j (40 + 8 * i2 + s.1) s.2.2.1 ∧ s.2.2.2.length ≤ s.1 ∧ Gn j ps.length qs.length one.isEmpty i2 s.2.2.1 ns (some (s.1, s.2.2.2))) (fun s => j - s.1) (0, t, gs, []) ⟨Nat.zero_le _, ht, hG, Nat.le_refl _, hM.into (by omega) (by omega)⟩ ⟨rfl, rfl, rfl, rfl, rfl, rfl, rfl, rfl, rfl, trivial⟩ ⟨rfl, trivial⟩ ⟨rfl, rfl, trivial⟩ (fun _ => rfl) (fun s hs next2 => ?_)
          obtain ⟨r, t, gs, rt⟩ := s
          obtain ⟨hr, ht, hG, hrt, hM⟩ := hs
          simp only at hr ht hG hrt hM
          have hgl := hG.len
          (repeat (first | refine r_end ?_ | (refine r_op ?_; refine r_pure hT rfl rfl rfl rfl rfl rfl ?_) | refine gi_seq ?_ | refine gi_plain ?_))
          refine gi_lt rfl (fun h5 => ?_) (fun h5 => ?_)
          · (repeat (first | (refine r_op ?_; refine r_pure hT rfl rfl rfl rfl rfl rfl ?_) | refine gi_seq ?_ | refine gi_plain ?_ | refine gi_skip ?_ | refine gi_block ?_))
            refine r_idx (row := [.v (.int .u8 p0)]) hT rfl rfl rfl rfl rfl rfl rfl rfl rfl rfl rfl rfl (by omega) (by simp [hp0]) ?_
            (repeat ((refine r_op ?_; first | refine r_pure hT rfl rfl rfl rfl rfl rfl ?_ | refine r_load hT rfl rfl rfl rfl rfl rfl rfl rfl rfl ?_)))
            refine r_shr rfl rfl rfl rfl rfl rfl rfl rfl (by rw [wr_eq]; show 0 ≤ (IntKind.u64).wrap _; rw [IntKind.wrap_u64]; omega) rfl ?_
            (repeat (first | refine r_end ?_ | (refine r_op ?_; refine r_pure hT rfl rfl rfl rfl rfl rfl ?_)))
            refine gi_cond rfl (fun c5 => ?_) (fun c5 => ?_)
            · (repeat (first | refine r_end ?_ | (refine r_op ?_; refine r_pure hT rfl rfl rfl rfl rfl rfl ?_) | refine gi_plain ?_ | refine gi_exit rfl ?_))
              refine next2 (r + 1, t, gs, rt) _ _ _ ⟨by simp only; omega, by simp only; omega, hG.mono (by simp only; omega), by simp only; omega, hM.skip (by omega)⟩ (by simp only; omega) ⟨?_, rfl, rfl, rfl, rfl, rfl, rfl, rfl, rfl, trivial⟩ ⟨rfl, trivial⟩ ⟨rfl, rfl, trivial⟩
              show some (I (wr .i64 ((r : Int) + 1))) = _
              rw [wr_i64 (by omega) (by omega)]
              simp
            (repeat (first | (refine r_op ?_; first | refine r_pure hT rfl rfl rfl rfl rfl rfl ?_ | refine r_load hT rfl rfl rfl rfl rfl rfl rfl rfl rfl ?_ | refine r_lit hT rfl rfl rfl rfl rfl rfl rfl rfl rfl rfl rfl rfl rfl ?_) | refine gi_seq ?_ | refine gi_plain ?_ | refine gi_skip ?_))
            refine r_append hT rfl rfl rfl rfl rfl rfl rfl rfl rfl rfl rfl rfl rfl rfl rfl rfl rfl (by simp only [List.length_cons, List.length_nil, List.length_map, maxLen]; exact ⟨by omega, by show _ * 8 ≤ _; omega⟩) ?_
            (repeat (first | refine r_end ?_ | (refine r_op ?_; first | refine r_pure hT rfl rfl rfl rfl rfl rfl ?_ | refine r_store hT rfl rfl rfl rfl rfl rfl rfl rfl rfl rfl ?_) | refine gi_seq ?_))
            refine gi_pick [0] [0, 1] rfl rfl rfl rfl rfl ?_
            refine gi_eqS [eO (gs ++ ns), eN (rt ++ [wr .i64 ((r : Int) + 1)])] (by rw [eN, List.map_append]; rfl) ?_
            obtain ⟨xr, hxr⟩ : ∃ x, gs[r]? = some x := ⟨_, List.getElem?_eq_getElem (by omega)⟩
            have hlr := (hG.el r xr hxr).2.2
            have hcr : 1 ≤ wr .i64 (1 + rm (wr .i64 ((i2 : Int) + r)) 4) ∧ wr .i64 (1 + rm (wr .i64 ((i2 : Int) + r)) 4) ≤ 4 := by rw [wr_i64 (n := (i2 : Int) + r) (by omega) (by omega)]; exact cost_rm1 4 (by omega) (by omega) (by omega)
            have hz1 : wr .i64 ((r : Int) + 1) = (r : Int) + 1 := wr_i64 (by omega) (by omega)
            (repeat (first | (refine r_op ?_; refine r_pure hT rfl rfl rfl rfl rfl rfl ?_) | refine gi_plain ?_))
            refine r_case (d := 172) rfl (fun c2 => ?_) (fun c2 => ?_)
            · (repeat (first | refine r_end ?_ | (refine r_op ?_; first | refine r_pure hT rfl rfl rfl rfl rfl rfl ?_ | refine r_off rfl rfl rfl rfl rfl ?_) | refine gi_plain ?_ | (refine gi_cnd ?_; first | refine gi_true rfl ?_ | refine gi_false rfl ?_)))
              refine r_idxS hT rfl rfl rfl rfl rfl rfl rfl rfl rfl rfl rfl rfl rfl (by omega) (by show r < ((gs ++ ns).map Ls.rowO).length; simp only [List.length_map, List.length_set, List.length_append]; omega) ?_
              (repeat ((refine r_op ?_; refine r_pure hT rfl rfl rfl rfl rfl rfl ?_)))
              refine r_takeS (row := xr.rowO) hT rfl rfl rfl rfl rfl rfl rfl rfl (by show ((gs ++ ns).map Ls.rowO)[r]? = _; rw [List.getElem?_map, List.getElem?_append_left (by omega), hxr]; rfl) rfl rfl rfl rfl ?_
              (repeat ((refine r_op ?_; refine r_pure hT rfl rfl rfl rfl rfl rfl ?_)))
              refine r_shl (n := id) rfl rfl rfl rfl rfl rfl rfl rfl (by decide) hidw ?_
              (repeat ((refine r_op ?_; refine r_pure hT rfl rfl rfl rfl rfl rfl ?_)))
              refine r_shl (n := id) rfl rfl rfl rfl rfl rfl rfl rfl (by decide) hidw ?_
              (repeat ((refine r_op ?_; first | refine r_pure hT rfl rfl rfl rfl rfl rfl ?_ | refine r_lit hT rfl rfl rfl rfl rfl rfl rfl rfl rfl rfl rfl rfl rfl ?_)))
              refine r_append hT rfl rfl rfl rfl rfl rfl rfl rfl rfl rfl rfl rfl rfl rfl rfl rfl rfl (by simp only [List.length_cons, List.length_nil, List.length_map, maxLen]; exact ⟨by omega, by show _ * 32 ≤ _; omega⟩) ?_
              skip
              refine r_idxS hT rfl rfl rfl rfl rfl rfl rfl rfl rfl rfl rfl rfl rfl (by omega) (by show r < (((gs ++ ns).map Ls.rowO).set r (xr.rowO.set 8 .any)).length; simp only [List.length_map, List.length_set, List.length_append]; omega) ?_
              (repeat ((refine r_op ?_; refine r_pure hT rfl rfl rfl rfl rfl rfl ?_)))
              refine r_giveS (row := xr.rowO.set 8 .any) hT rfl rfl rfl rfl rfl rfl rfl rfl rfl rfl rfl rfl rfl rfl (List.getElem?_set_self (by simp only [List.length_map, List.length_append]; omega)) rfl ?_
              refine r_eqS _ (eO_link2 (a := r) (gs := gs) (ns := ns) (by omega) xr ⟨_, _, _, _⟩ _) ?_
              have hG3 := hG.add hxr (lk2 (i := id) (d := wr .i64 (wr .i64 (id + 1) + r)) (c := wr .i64 (1 + rm (wr .i64 ((i2 : Int) + r)) 4)) ⟨by omega, by omega⟩)
              have hM3 := hM.full (by omega) hxr (q := ⟨2, id, wr .i64 (wr .i64 (id + 1) + r), wr .i64 (1 + rm (wr .i64 ((i2 : Int) + r)) 4)⟩) ⟨rfl, by simp only; omega, by simp only; rw [wr_i64 (n := id + 1) (by omega) (by omega), wr_i64 (by omega) (by omega)], hcr.1, hcr.2⟩ hz1
              generalize gs.set r (xr.add _) = g3 at hG3 hM3 ⊢
              (repeat (first | refine r_end ?_ | (refine r_op ?_; refine r_pure hT rfl rfl rfl rfl rfl rfl ?_) | refine gi_plain ?_ | refine gi_inBlock ?_))
              refine next2 (r + 1, t + 1, g3, rt ++ [wr .i64 ((r : Int) + 1)]) _ _ _ ⟨by simp only; omega, by simp only; omega, hG3.mono (by simp only; omega), by simp only [List.length_append, List.length_singleton]; omega, hM3⟩ (by simp only; omega) ⟨?_, ?_, rfl, rfl, rfl, rfl, rfl, rfl, rfl, trivial⟩ ⟨rfl, trivial⟩ ⟨rfl, rfl, trivial⟩
              · show some (I (wr .i64 ((r : Int) + 1))) = _
                rw [wr_i64 (by omega) (by omega)]
                simp
              · show some (I (wr .i64 ((t : Int) + 1))) = _
                rw [wr_i64 (by omega) (by omega)]
                simp
            · rw [leB_eq] at c2
              have c2 := of_decide_eq_false c2
              rw [List.length_map] at c2
              simp only at c2
              obtain ⟨o, ho⟩ : ∃ o, one[t]? = some o := ⟨_, List.getElem?_eq_getElem (by omega)⟩
              (repeat ((refine r_op ?_; refine r_pure hT rfl rfl rfl rfl rfl rfl ?_)))
              refine r_idx (row := [.v (.bool o)]) hT rfl rfl rfl rfl rfl rfl rfl rfl rfl rfl rfl rfl (by omega) (by simp [ho]) ?_
              (repeat (first | refine r_end ?_ | (refine r_op ?_; first | refine r_pure hT rfl rfl rfl rfl rfl rfl ?_ | refine r_load hT rfl rfl rfl rfl rfl rfl rfl rfl rfl ?_)))
              refine gi_cond rfl (fun c3 => ?_) (fun c3 => ?_)
              · (repeat (first | (refine r_op ?_; refine r_pure hT rfl rfl rfl rfl rfl rfl ?_) | refine gi_plain ?_))
                refine r_idxS hT rfl rfl rfl rfl rfl rfl rfl rfl rfl rfl rfl rfl rfl (by omega) (by show r < ((gs ++ ns).map Ls.rowO).length; simp only [List.length_map, List.length_set, List.length_append]; omega) ?_
                (repeat ((refine r_op ?_; refine r_pure hT rfl rfl rfl rfl rfl rfl ?_)))
                refine r_takeS (row := xr.rowO) hT rfl rfl rfl rfl rfl rfl rfl rfl (by show ((gs ++ ns).map Ls.rowO)[r]? = _; rw [List.getElem?_map, List.getElem?_append_left (by omega), hxr]; rfl) rfl rfl rfl rfl ?_
                (repeat ((refine r_op ?_; refine r_pure hT rfl rfl rfl rfl rfl rfl ?_)))
                refine r_shl (n := id) rfl rfl rfl rfl rfl rfl rfl rfl (by decide) hidw ?_
                (repeat ((refine r_op ?_; refine r_pure hT rfl rfl rfl rfl rfl rfl ?_)))
                refine r_shl (n := id) rfl rfl rfl rfl rfl rfl rfl rfl (by decide) hidw ?_
                (repeat ((refine r_op ?_; first | refine r_pure hT rfl rfl rfl rfl rfl rfl ?_ | refine r_lit hT rfl rfl rfl rfl rfl rfl rfl rfl rfl rfl rfl rfl rfl ?_)))
                refine r_append hT rfl rfl rfl rfl rfl rfl rfl rfl rfl rfl rfl rfl rfl rfl rfl rfl rfl (by simp only [List.length_cons, List.length_nil, List.length_map, maxLen]; exact ⟨by omega, by show _ * 32 ≤ _; omega⟩) ?_
                skip
                refine r_idxS hT rfl rfl rfl rfl rfl rfl rfl rfl rfl rfl rfl rfl rfl (by omega) (by show r < (((gs ++ ns).map Ls.rowO).set r (xr.rowO.set 8 .any)).length; simp only [List.length_map, List.length_set, List.length_append]; omega) ?_
                (repeat ((refine r_op ?_; refine r_pure hT rfl rfl rfl rfl rfl rfl ?_)))
                refine r_giveS (row := xr.rowO.set 8 .any) hT rfl rfl rfl rfl rfl rfl rfl rfl rfl rfl rfl rfl rfl rfl (List.getElem?_set_self (by simp only [List.length_map, List.length_append]; omega)) rfl ?_
                refine r_eqS _ (eO_link2 (a := r) (gs := gs) (ns := ns) (by omega) xr ⟨_, _, _, _⟩ _) ?_
                have hG3 := hG.add hxr (lk2 (i := id) (d := wr .i64 (wr .i64 (id + 1) + r)) (c := wr .i64 (1 + rm (wr .i64 ((i2 : Int) + r)) 4)) ⟨by omega, by omega⟩)
                have hM3 := hM.full (by omega) hxr (q := ⟨2, id, wr .i64 (wr .i64 (id + 1) + r), wr .i64 (1 + rm (wr .i64 ((i2 : Int) + r)) 4)⟩) ⟨rfl, by simp only; omega, by simp only; rw [wr_i64 (n := id + 1) (by omega) (by omega), wr_i64 (by omega) (by omega)], hcr.1, hcr.2⟩ hz1
                generalize gs.set r (xr.add _) = g3 at hG3 hM3 ⊢
                (repeat (first | refine r_end ?_ | (refine r_op ?_; refine r_pure hT rfl rfl rfl rfl rfl rfl ?_) | refine gi_plain ?_ | refine gi_inBlock ?_))
                refine next2 (r + 1, t + 1, g3, rt ++ [wr .i64 ((r : Int) + 1)]) _ _ _ ⟨by simp only; omega, by simp only; omega, hG3.mono (by simp only; omega), by simp only [List.length_append, List.length_singleton]; omega, hM3⟩ (by simp only; omega) ⟨?_, ?_, rfl, rfl, rfl, rfl, rfl, rfl, rfl, trivial⟩ ⟨rfl, trivial⟩ ⟨rfl, rfl, trivial⟩
                · show some (I (wr .i64 ((r : Int) + 1))) = _
                  rw [wr_i64 (by omega) (by omega)]
                  simp
                · show some (I (wr .i64 ((t : Int) + 1))) = _
                  rw [wr_i64 (by omega) (by omega)]
                  simp
              · (repeat (first | refine r_end ?_ | (refine r_op ?_; refine r_pure hT rfl rfl rfl rfl rfl rfl ?_) | refine gi_plain ?_ | refine gi_skip ?_ | refine gi_inBlock ?_))
                refine next2 (r + 1, t + 1, gs, rt ++ [wr .i64 ((r : Int) + 1)]) _ _ _ ⟨by simp only; omega, by simp only; omega, hG.mono (by simp only; omega), by simp only [List.length_append, List.length_singleton]; omega, hM.half (by omega) (ne_nil ho) hz1⟩ (by simp only; omega) ⟨?_, ?_, rfl, rfl, rfl, rfl, rfl, rfl, rfl, trivial⟩ ⟨rfl, trivial⟩ ⟨rfl, rfl, trivial⟩
                · show some (I (wr .i64 ((r : Int) + 1))) = _
                  rw [wr_i64 (by omega) (by omega)]
                  simp
                · show some (I (wr .i64 ((t : Int) + 1))) = _
                  rw [wr_i64 (by omega) (by omega)]
                  simp
          · (repeat (refine gi_exit rfl ?_))
            refine gi_freeze 1 rfl rfl ?_
            (repeat (first | (refine r_op ?_; first | refine r_pure hT rfl rfl rfl rfl rfl rfl ?_ | refine r_load hT rfl rfl rfl rfl rfl rfl rfl rfl rfl ?_ | refine r_lit hT rfl rfl rfl rfl rfl rfl rfl rfl rfl rfl rfl rfl rfl ?_) | refine gi_plain ?_))
            refine r_append hT rfl rfl rfl rfl rfl rfl rfl rfl rfl rfl rfl rfl rfl rfl rfl rfl rfl (by simp only [List.length_cons, List.length_nil, List.length_map, List.length_append, maxLen]; exact ⟨by omega, by show _ * 144 ≤ _; omega⟩) ?_
            (repeat (first | refine r_end ?_ | (refine r_op ?_; refine r_pure hT rfl rfl rfl rfl rfl rfl ?_) | refine gi_plain ?_ | refine gi_inBlock ?_))
            refine gi_rows 0 (se' := seO ((gs ++ ns) ++ [⟨0, 2, id, wr .i64 (1 + a), 0, 0, 0, 0, [], 24, rt, []⟩])) rfl ⟨rfl, rfl, by simp⟩ (by rw [eO_snoc (gs ++ ns) _ _ rfl]; exact rows_last (raw_le (le_same _))) ?_
            have hrj : r = j := by omega
            subst hrj
            have hMo := hM.out (id := id) (adv := wr .i64 (1 + a)) (by omega) (by rw [wr_i64 (by omega) (by omega)]; omega)
            refine next (i2 + 1, t, gs, ns ++ [⟨0, 2, id, wr .i64 (1 + a), 0, 0, 0, 0, [], 24, rt, []⟩]) _ _ _ ⟨by simp only; omega, by simp only; omega, hG.mono (by simp only; omega), fun y hy => ?_, by simp only [List.length_append, List.length_singleton]; omega, hMo⟩ (by simp only; omega) ⟨?_, rfl, rfl, rfl, rfl, rfl, rfl, trivial⟩ trivial ⟨by rw [← List.append_assoc], trivial⟩
            · rcases List.mem_append.1 hy with hy | hy
              · exact hN y hy
              · rw [List.mem_singleton.1 hy]
                exact ⟨rfl, by simp only; omega, by simp only; omega, by simp only; omega, by simp only; omega⟩
            · show some (I (wr .i64 ((i2 : Int) + 1))) = _
              rw [wr_i64 (by omega) (by omega)]
              simp
        · (repeat (first | refine gi_seq ?_ | refine gi_exit rfl ?_))
          exact fin () _ _ _ trivial ⟨rfl, rfl, rfl, rfl, rfl, rfl, trivial⟩ trivial ⟨rfl, trivial⟩
      · (repeat (first | refine r_end ?_ | (refine r_op ?_; first | refine r_pure hT rfl rfl rfl rfl rfl rfl ?_ | refine r_off rfl rfl rfl rfl rfl ?_) | refine gi_seq ?_ | refine gi_exit rfl ?_ | (refine gi_cnd ?_; first | refine gi_true rfl ?_ | refine gi_false rfl ?_)))
        exact fin () _ _ _ trivial ⟨rfl, rfl, rfl, rfl, rfl, rfl, trivial⟩ trivial ⟨rfl, trivial⟩
    case after =>
      intro _ _
      (repeat (first | refine r_end ?_ | (refine r_op ?_; refine r_pure hT rfl rfl rfl rfl rfl rfl ?_) | refine gi_plain ?_ | refine gi_block ?_))
      refine gi_loop (σ := Nat × List Ls) (fun s => [(20, I s.1), (9, I j), (10, .sl 0)]) (fun _ => []) (fun s => [eO (s.2 ++ ns)]) (fun s => s.1 ≤ j ∧ Gs j (110 + s.1) s.2 ∧ Gf j ps.length qs.length one.isEmpty s.1 s.2 ns) (fun s => j - s.1) (0, gs) ⟨Nat.zero_le _, hG.mono (by simp only; omega), .start hM⟩ ⟨rfl, rfl, rfl, trivial⟩ trivial ⟨rfl, trivial⟩ (fun _ => rfl) (fun s hs next => ?_)
      obtain ⟨r, gs⟩ := s
      obtain ⟨hr, hG, hM⟩ := hs
      simp only at hr hG hM
      have hgl := hG.len
      (repeat (first | refine r_end ?_ | (refine r_op ?_; refine r_pure hT rfl rfl rfl rfl rfl rfl ?_) | refine gi_seq ?_ | refine gi_plain ?_))
      refine gi_lt rfl (fun h5 => ?_) (fun h5 => ?_)
      · obtain ⟨xr, hxr⟩ : ∃ x, gs[r]? = some x := ⟨_, List.getElem?_eq_getElem (by omega)⟩
        have hlr := (hG.el r xr hxr).2.2
        have hcr : 1 ≤ wr .i64 (1 + rm (r : Int) 3) ∧ wr .i64 (1 + rm (r : Int) 3) ≤ 3 := cost_rm1 3 (by omega) (by omega) (by omega)
        obtain ⟨id, hid⟩ : ∃ id : Int, id = (201 + (r : Int)) * 256 := ⟨_, rfl⟩
        have hidw : wr .i64 (wr .i64 (201 + (r : Int)) * 2 ^ (min (8 : Int).toNat (IntKind.bits .i64))) = id := by
          rw [wr_i64 (n := 201 + (r : Int)) (by omega) (by omega), show (2 : Int) ^ (min (8 : Int).toNat (IntKind.bits .i64)) = 256 from rfl, wr_i64 (by omega) (by omega), hid]
        (repeat (first | (refine r_op ?_; refine r_pure hT rfl rfl rfl rfl rfl rfl ?_) | refine gi_seq ?_ | refine gi_plain ?_ | refine gi_skip ?_ | refine gi_block ?_))
        refine r_idxS hT rfl rfl rfl rfl rfl rfl rfl rfl rfl rfl rfl rfl rfl (by omega) (by show r < ((gs ++ ns).map Ls.rowO).length; simp only [List.length_map, List.length_set, List.length_append]; omega) ?_
        (repeat ((refine r_op ?_; refine r_pure hT rfl rfl rfl rfl rfl rfl ?_)))
        refine r_takeS (row := xr.rowO) hT rfl rfl rfl rfl rfl rfl rfl rfl (by show ((gs ++ ns).map Ls.rowO)[r]? = _; rw [List.getElem?_map, List.getElem?_append_left (by omega), hxr]; rfl) rfl rfl rfl rfl ?_
        (repeat ((refine r_op ?_; refine r_pure hT rfl rfl rfl rfl rfl rfl ?_)))
        refine r_shl (n := id) rfl rfl rfl rfl rfl rfl rfl rfl (by decide) hidw ?_
        (repeat ((refine r_op ?_; first | refine r_pure hT rfl rfl rfl rfl rfl rfl ?_ | refine r_lit hT rfl rfl rfl rfl rfl rfl rfl rfl rfl rfl rfl rfl rfl ?_)))
        refine r_append hT rfl rfl rfl rfl rfl rfl rfl rfl rfl rfl rfl rfl rfl rfl rfl rfl rfl (by simp only [List.length_cons, List.length_nil, List.length_map, maxLen]; exact ⟨by omega, by show _ * 32 ≤ _; omega⟩) ?_
        skip
        refine r_idxS hT rfl rfl rfl rfl rfl rfl rfl rfl rfl rfl rfl rfl rfl (by omega) (by show r < (((gs ++ ns).map Ls.rowO).set r (xr.rowO.set 8 .any)).length; simp only [List.length_map, List.length_set, List.length_append]; omega) ?_
        (repeat ((refine r_op ?_; refine r_pure hT rfl rfl rfl rfl rfl rfl ?_)))
        refine r_giveS (row := xr.rowO.set 8 .any) hT rfl rfl rfl rfl rfl rfl rfl rfl rfl rfl rfl rfl rfl rfl (List.getElem?_set_self (by simp only [List.length_map, List.length_append]; omega)) rfl ?_
        refine r_eqS _ (eO_link2 (a := r) (gs := gs) (ns := ns) (by omega) xr ⟨_, _, _, _⟩ _) ?_
        have hG3 := hG.add hxr (q := ⟨3, id, 4294967040, wr .i64 (1 + rm (r : Int) 3)⟩) ⟨by simp only; omega, by simp only; omega, fun _ => ⟨rfl, by simp only; omega, by simp only; omega, by simp only; omega⟩⟩
        have hM3 := hM.stub (by omega) hxr (q := ⟨3, id, 4294967040, wr .i64 (1 + rm (r : Int) 3)⟩) ⟨rfl, by simp only; omega, rfl, hcr.1, hcr.2⟩
        generalize gs.set r (xr.add _) = g3 at hG3 hM3 ⊢
        (repeat (first | refine r_end ?_ | (refine r_op ?_; refine r_pure hT rfl rfl rfl rfl rfl rfl ?_) | refine gi_plain ?_ | refine gi_inBlock ?_))
        refine next (r + 1, g3) _ _ _ ⟨by simp only; omega, hG3.mono (by simp only; omega), hM3⟩ (by simp only; omega) ⟨?_, rfl, rfl, trivial⟩ trivial ⟨rfl, trivial⟩
        show some (I (wr .i64 ((r : Int) + 1))) = _
        rw [wr_i64 (by omega) (by omega)]
        simp
      · (repeat (first | refine r_end ?_ | (refine r_op ?_; refine r_pure hT rfl rfl rfl rfl rfl rfl ?_) | refine gi_seq ?_ | refine gi_plain ?_ | refine gi_exit rfl ?_))
        refine gi_retX hT Try.func28 rfl [] [0] rfl rfl rfl rfl rfl rfl rfl rfl ?_
        have hrj : r = j := by omega
        subst hrj
        exact ⟨gs ++ ns, ⟨r, gs, ns, hk, rfl, hG.mono (by omega), hN, by omega⟩, ⟨r, gs, ns, hk, rfl, hM⟩, rfl, rfl, rfl⟩
theorem Graph_ok (n : Int) (hn : 0 ≤ n ∧ n ≤ 255) (ps qs : List Int) (hps : ∀ p ∈ ps, 0 ≤ p ∧ p ≤ 255) (hqs : ∀ p ∈ qs, 0 ≤ p ∧ p ≤ 255) (one : List Bool) : FnX Try.prog 28 [u8 n, rs8 ps, rs8 qs, rsB one] [] [] (RG n) :=
  FnX.mono (GraphM_ok n hn ps qs hps hqs one) (fun r H S ⟨l, h, _, h1, h2, h3⟩ => ⟨l, h, h1, h2, h3⟩)
end Go.Proofs.Ytmocggibcniggaa.Kt
namespace Go.Proofs.Ytmocggibcniggaa.Kt
open Go Kw Go.Proofs
attribute [local irreducible] Kw.GI Kw.GR Kw.FnR Kw.FnX
set_option maxHeartbeats 16000000
set_option maxRecDepth 100000
/-! ### the example: one router, one stub -/
def lk0 : Lk := ⟨3, 51456, 4294967040, 1⟩
def l0 : List Ls := [⟨0, 1, 1, 1, 0, 0, 0, 0, [lk0], 0, [], []⟩]
def l00 : Ls := ⟨0, 1, 1, 1, 0, 0, 0, 0, [], 0, [], []⟩
theorem map0 : mapL l0 = ⟨[⟨1, 1⟩], [], [⟨1, 51456, 24, 1⟩], [], []⟩ := by kernel_rfl
theorem src0 : srcF 51461 (mapL l0) = ⟨⟨1, 1⟩, 51456, 24, true⟩ := by kernel_rfl
theorem Graph0 : FnX Try.prog 28 [u8 0, rs8 [], rs8 [], rsB []] [] [] (fun r H S => r = .sl 0 ∧ H = [] ∧ S = [eO l0]) := by
  refine fnX_intro (T := TT) (n := 235) Try.func28 rfl rfl rfl (fun w X Z Y B => ?_)
  (repeat (first | refine r_end ?_ | (refine r_op ?_; refine r_pure hT rfl rfl rfl rfl rfl rfl ?_) | refine gi_seq ?_ | refine gi_plain_ne 2 rfl ?_))
  refine gi_turn (d := 9) (y := I 1) rfl (by kernel_rfl) ?_
  (repeat (first | refine r_end ?_ | (refine r_op ?_; refine r_pure hT rfl rfl rfl rfl rfl rfl ?_) | refine gi_seq ?_ | refine gi_plain ?_ | refine gi_block ?_))
  refine gi_adopt (e := 51) (sz := 12) 10 rfl ?_
  refine gi_rows 0 (se' := seO []) rfl ⟨rfl, rfl, rfl⟩ rows_nest ?_
  refine gi_loop0 ?_
  (repeat (first | refine r_end ?_ | (refine r_op ?_; refine r_pure hT rfl rfl rfl rfl rfl rfl ?_) | refine gi_seq ?_ | refine gi_plain ?_))
  refine gi_known (d := 27) (b := true) rfl (by kernel_rfl) ?_
  (repeat (first | (refine r_op ?_; first | refine r_pure hT rfl rfl rfl rfl rfl rfl ?_ | refine r_lit hT rfl rfl rfl rfl rfl rfl rfl rfl rfl rfl rfl rfl rfl ?_) | refine gi_seq ?_ | refine gi_plain ?_ | refine gi_skip ?_ | refine gi_block ?_ | (refine gi_cnd ?_; first | refine gi_true rfl ?_ | refine gi_false rfl ?_)))
  refine r_append hT rfl rfl rfl rfl rfl rfl rfl rfl rfl rfl rfl rfl rfl rfl rfl rfl rfl (by simp only [List.length_cons, List.length_nil, List.length_map, maxLen]; exact ⟨by omega, by decide⟩) ?_
  (repeat (first | refine r_end ?_ | (refine r_op ?_; refine r_pure hT rfl rfl rfl rfl rfl rfl ?_) | refine gi_inBlock ?_))
  refine gi_rows 0 (se' := seO [l00]) rfl ⟨rfl, rfl, rfl⟩ (rows_last (L := []) (raw_le (le_fs 1))) ?_
  (repeat (first | refine r_end ?_ | (refine r_op ?_; refine r_pure hT rfl rfl rfl rfl rfl rfl ?_) | refine gi_plain ?_))
  refine gi_inLoop ?_
  (repeat (first | refine r_end ?_ | (refine r_op ?_; refine r_pure hT rfl rfl rfl rfl rfl rfl ?_) | refine gi_seq ?_ | refine gi_plain ?_))
  refine gi_known (d := 27) (b := false) rfl (by kernel_rfl) ?_
  (repeat (first | refine r_end ?_ | (refine r_op ?_; refine r_pure hT rfl rfl rfl rfl rfl rfl ?_) | refine gi_seq ?_ | refine gi_plain ?_ | refine gi_block ?_ | refine gi_exit rfl ?_ | (refine gi_cnd ?_; first | refine gi_true rfl ?_ | refine gi_false rfl ?_)))
  refine gi_loop0 ?_
  (repeat (first | (refine r_op ?_; refine r_pure hT rfl rfl rfl rfl rfl rfl ?_) | refine gi_seq ?_ | refine gi_plain ?_))
  refine r_known (d := 42) (b := false) rfl (by kernel_rfl) ?_
  (repeat (first | refine r_end ?_ | (refine r_op ?_; first | refine r_pure hT rfl rfl rfl rfl rfl rfl ?_ | refine r_off rfl rfl rfl rfl rfl ?_) | refine gi_seq ?_ | refine gi_plain ?_ | refine gi_block ?_ | refine gi_exit rfl ?_ | (refine gi_cnd ?_; first | refine gi_true rfl ?_ | refine gi_false rfl ?_)))
  refine gi_loop0 ?_
  (repeat (first | (refine r_op ?_; refine r_pure hT rfl rfl rfl rfl rfl rfl ?_) | refine gi_seq ?_ | refine gi_plain ?_))
  refine r_known (d := 128) (b := false) rfl (by kernel_rfl) ?_
  (repeat (first | refine r_end ?_ | (refine r_op ?_; first | refine r_pure hT rfl rfl rfl rfl rfl rfl ?_ | refine r_off rfl rfl rfl rfl rfl ?_) | refine gi_seq ?_ | refine gi_plain ?_ | refine gi_block ?_ | refine gi_exit rfl ?_ | (refine gi_cnd ?_; first | refine gi_true rfl ?_ | refine gi_false rfl ?_)))
  refine gi_loop0 ?_
  (repeat (first | refine r_end ?_ | (refine r_op ?_; refine r_pure hT rfl rfl rfl rfl rfl rfl ?_) | refine gi_seq ?_ | refine gi_plain ?_))
  refine gi_known (d := 213) (b := true) rfl (by kernel_rfl) ?_
  (repeat (first | (refine r_op ?_; refine r_pure hT rfl rfl rfl rfl rfl rfl ?_) | refine gi_seq ?_ | refine gi_plain ?_ | refine gi_skip ?_ | refine gi_block ?_ | (refine gi_cnd ?_; first | refine gi_true rfl ?_ | refine gi_false rfl ?_)))
  refine r_idxS hT rfl rfl rfl rfl rfl rfl rfl rfl rfl rfl rfl rfl rfl (by decide) (by decide) ?_
  (repeat ((refine r_op ?_; refine r_pure hT rfl rfl rfl rfl rfl rfl ?_)))
  refine r_takeS (row := l00.rowO) hT rfl rfl rfl rfl rfl rfl rfl rfl rfl rfl rfl rfl rfl ?_
  (repeat ((refine r_op ?_; refine r_pure hT rfl rfl rfl rfl rfl rfl ?_)))
  refine r_shl (n := 51456) rfl rfl rfl rfl rfl rfl rfl rfl (by decide) (by kernel_rfl) ?_
  (repeat ((refine r_op ?_; first | refine r_pure hT rfl rfl rfl rfl rfl rfl ?_ | refine r_lit hT rfl rfl rfl rfl rfl rfl rfl rfl rfl rfl rfl rfl rfl ?_)))
  refine r_append hT rfl rfl rfl rfl rfl rfl rfl rfl rfl rfl rfl rfl rfl rfl rfl rfl rfl (by simp only [List.length_cons, List.length_nil, List.length_map, maxLen, l00]; exact ⟨by omega, by decide⟩) ?_
  skip
  refine r_idxS hT rfl rfl rfl rfl rfl rfl rfl rfl rfl rfl rfl rfl rfl (by decide) (by show 0 < 1; decide) ?_
  (repeat ((refine r_op ?_; refine r_pure hT rfl rfl rfl rfl rfl rfl ?_)))
  refine r_giveS (row := l00.rowO.set 8 .any) hT rfl rfl rfl rfl rfl rfl rfl rfl rfl rfl rfl rfl rfl rfl rfl rfl ?_
  refine r_eqS _ (eO_link2 (a := 0) (gs := [l00]) (ns := []) (by decide) l00 ⟨_, _, _, _⟩ _) ?_
  (repeat (first | refine r_end ?_ | (refine r_op ?_; refine r_pure hT rfl rfl rfl rfl rfl rfl ?_) | refine gi_plain ?_ | refine gi_inBlock ?_))
  refine gi_inLoop ?_
  (repeat (first | refine r_end ?_ | (refine r_op ?_; refine r_pure hT rfl rfl rfl rfl rfl rfl ?_) | refine gi_seq ?_ | refine gi_plain ?_))
  refine gi_known (d := 213) (b := false) rfl (by kernel_rfl) ?_
  (repeat (first | refine r_end ?_ | (refine r_op ?_; refine r_pure hT rfl rfl rfl rfl rfl rfl ?_) | refine gi_seq ?_ | refine gi_plain ?_ | refine gi_exit rfl ?_ | (refine gi_cnd ?_; first | refine gi_true rfl ?_ | refine gi_false rfl ?_)))
  refine gi_retX hT Try.func28 rfl [] [0] rfl rfl rfl rfl rfl rfl rfl rfl ?_
  refine ⟨rfl, rfl, ?_⟩
  show [eO _] = [eO l0]
  kernel_rfl
abbrev R0 : AV → Hp → Sp → Prop := fun r H S => r = .sl 0 ∧ H = [] ∧ S = [eO l0]
theorem p0G : ∀ r H1 S1, R0 r H1 S1 → stA r = true ∧ StH H1 ∧ StS S1 := by
  rintro r H S ⟨rfl, rfl, rfl⟩
  refine ⟨rfl, StH.nil, fun e he s hs => ?_⟩
  rw [List.mem_singleton] at he
  subst he
  cases hs
  exact stOLL_O l0
theorem few0 : Few l0 := ⟨by decide, fun x hx => by rw [List.mem_singleton.1 hx]; decide, fun x hx => by rw [List.mem_singleton.1 hx]; decide⟩
theorem Graph0n : FnX Try.prog 28 [u8 0, nilA, nilA, nilA] [] [] R0 :=
  fnX_args Graph0 (fun _ _ _ h => by
    have a1 := CL_setx (x := nilA) (y := rs8 []) (j := 1) (fun u hu => C_nil_rs hu) rfl h
    have a2 := CL_setx (x := nilA) (y := rs8 []) (j := 2) (fun u hu => C_nil_rs hu) rfl a1
    exact CL_setx (x := nilA) (y := rsB []) (j := 3) (fun u hu => C_nil_rs hu) rfl a2)
abbrev RReach (t : List Nd) (m : Mp) (ms : List Vt) : AV → Hp → Sp → Prop := fun r H S => r = .sl 0 ∧ H = [] ∧ ∃ o, S = [eN o] ∧ Rch t m.wl ms o
theorem pRch {t : List Nd} {m : Mp} {ms : List Vt} : ∀ r H1 S1, RReach t m ms r H1 S1 → stA r = true ∧ StH H1 ∧ StS S1 := by
  rintro r H S ⟨rfl, rfl, o, rfl, _⟩
  refine ⟨rfl, StH.nil, fun e he s hs => ?_⟩
  rw [List.mem_singleton] at he
  subst he
  cases hs
  exact stLL_N o
theorem Reach0 (m : Mp) (hw : m.wl.length < 1000000) : FnX Try.prog 23 [nilA, avMf m, nilA] [] [] (RReach [] m []) :=
  fnX_args (pReach_ok [] m [] (by decide) hw (by decide)) (fun _ _ _ h => by
    have a1 := CL_setx (x := nilA) (y := fsNd []) (j := 0) (fun u hu => C_nil_fs hu) rfl h
    exact CL_setx (x := nilA) (y := rsV []) (j := 2) (fun u hu => C_nil_rs hu) rfl a1)
theorem pSrc {s : Src} : ∀ r S1, (r = s.av ∧ S1 = []) → plainA r = true ∧ PlainS S1 := pA rfl
theorem awake23_ok : FnR Try.prog 14 [] (RB true) := by
  refine fnR_intro (T := TT) (n := 35) Try.func14 rfl rfl rfl (fun w Z => ?_)
  (repeat (first | refine r_end ?_ | (refine r_op ?_; refine r_pure hT rfl rfl rfl rfl rfl rfl ?_) | refine gi_seq ?_ | refine gi_plain ?_))
  refine r_callX [] [] (Graph0n) rfl rfl rfl rfl rfl rfl Try.func28 rfl rfl rfl rfl rfl rfl rfl p0G ?_
  rintro r H1 S1 ⟨rfl, rfl, rfl⟩
  refine r_freeze 0 rfl (frz_seO l0) ?_
  skip
  refine r_call (MapF l0 few0) rfl rfl rfl rfl rfl rfl rfl rfl Try.func15 rfl rfl rfl pMapP ?_
  rintro r S1 ⟨rfl, rfl⟩
  (repeat (first | refine r_end ?_ | (refine r_op ?_; first | refine r_store hT rfl rfl rfl rfl rfl rfl rfl rfl rfl rfl ?_ | refine r_alloc hT rfl rfl rfl rfl rfl rfl rfl rfl rfl ?_) | refine gi_seq ?_))
  refine gi_freeze 1 (L' := (mapL l0).vs.map Vt.row) rfl rfl ?_
  refine gi_freeze 2 (L' := (mapL l0).es.map Eg.row) rfl rfl ?_
  refine gi_freeze 3 (L' := (mapL l0).sb.map Sb.row) rfl rfl ?_
  refine gi_freeze 4 (L' := (mapL l0).sn.map Sn.row) rfl rfl ?_
  refine gi_freeze 5 (L' := (mapL l0).wl.map nRow) rfl rfl ?_
  refine gi_weak (F' := [(1, .box 0 0)]) (H' := [hMf (mapL l0)]) (S' := []) ⟨rfl, trivial⟩ ⟨rfl, trivial⟩ trivial rfl ?_
  (repeat (first | (refine r_op ?_; refine r_load hT rfl rfl rfl rfl rfl rfl rfl rfl rfl ?_) | refine gi_plain ?_))
  refine r_call (pSource_ok (mapL l0) 51461 (by rw [map0]; decide) (by rw [map0]; decide)) rfl rfl rfl rfl rfl rfl rfl rfl Try.func16 rfl rfl rfl pSrc ?_
  rintro r S1 ⟨rfl, rfl⟩
  rw [src0]
  (repeat (first | refine r_end ?_ | (refine r_op ?_; first | refine r_pure hT rfl rfl rfl rfl rfl rfl ?_ | refine r_load hT rfl rfl rfl rfl rfl rfl rfl rfl rfl ?_ | refine r_store hT rfl rfl rfl rfl rfl rfl rfl rfl rfl rfl ?_ | refine r_alloc hT rfl rfl rfl rfl rfl rfl rfl rfl rfl ?_) | refine gi_seq ?_ | refine gi_plain ?_))
  refine r_callX [] [] (Reach0 (mapL l0) (by rw [map0]; decide)) rfl rfl rfl rfl rfl rfl Try.func23 rfl rfl rfl rfl rfl rfl rfl pRch ?_
  rintro r H1 S1 ⟨rfl, rfl, o, rfl, ho⟩
  obtain rfl : o = [] := List.eq_nil_of_length_eq_zero ho.lo
  (repeat ((refine r_op ?_; refine r_pure hT rfl rfl rfl rfl rfl rfl ?_)))
  refine r_known (d := 19) (b := true) rfl (by kernel_rfl) ?_
  (repeat ((refine r_op ?_; first | refine r_pure hT rfl rfl rfl rfl rfl rfl ?_ | refine r_load hT rfl rfl rfl rfl rfl rfl rfl rfl rfl ?_)))
  refine r_known (d := 27) (b := true) rfl (by kernel_rfl) ?_
  (repeat ((refine r_op ?_; refine r_pure hT rfl rfl rfl rfl rfl rfl ?_)))
  refine r_known (d := 31) (b := true) rfl (by kernel_rfl) ?_
  (repeat (first | refine r_end ?_ | (refine r_op ?_; refine r_pure hT rfl rfl rfl rfl rfl rfl ?_)))
  refine gi_retW hT Try.func14 rfl rfl [] rfl rfl rfl rfl ?_
  exact ⟨by rw [eqB_eq]; rfl, rfl⟩
end Go.Proofs.Ytmocggibcniggaa.Kt
