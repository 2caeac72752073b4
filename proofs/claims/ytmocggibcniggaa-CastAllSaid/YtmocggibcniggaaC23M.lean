/- Part of the proofs of this seat's statements: what the functions compute. No condition. -/
import Derived.Test.YtmocggibcniggaaC23L
set_option linter.unusedSimpArgs false
set_option linter.unusedVariables false
namespace Go.Proofs.Ytmocggibcniggaa.Kt
open Go Kw Go.Proofs
attribute [local irreducible] Kw.GI Kw.GR Kw.FnR Kw.FnX
set_option maxHeartbeats 8000000
set_option maxRecDepth 100000
theorem in17_ok (l : List Vt) (v : Vt) (hl : l.length < 1000000) : FnR Try.prog 58 [rsV l, v.av] (RB (l.any (fun x => decide (x = v)))) := by
  refine fnR_intro (T := TT) (n := 18) Try.func58 rfl rfl rfl (fun w Z => ?_)
  (repeat (first | refine r_end ?_ | (refine r_op ?_; first | refine r_pure hT rfl rfl rfl rfl rfl rfl ?_ | refine r_box rfl rfl rfl rfl rfl rfl rfl rfl rfl ?_) | refine gi_seq ?_ | refine gi_plain ?_ | refine gi_block ?_))
  refine gi_loop (σ := Nat) (fun j => [(5, I j), (3, .box 0 0), (0, rsV l)]) (fun _ => [hV v]) (fun _ => []) (fun j => j ≤ l.length ∧ (l.take j).any (fun x => decide (x = v)) = false) (fun j => l.length - j) 0 ⟨Nat.zero_le _, rfl⟩ ⟨rfl, rfl, rfl, trivial⟩ ⟨rfl, trivial⟩ trivial (fun _ => rfl) (fun j hj next => ?_)
  obtain ⟨hj, hn⟩ := hj
  (repeat (first | refine r_end ?_ | (refine r_op ?_; refine r_pure hT rfl rfl rfl rfl rfl rfl ?_) | refine gi_seq ?_ | refine gi_plain ?_))
  refine gi_lt (q := ((l.map Vt.row).length : Int)) rfl (fun h3 => ?_) (fun h3 => ?_)
  · rw [List.length_map] at h3
    have hjl : j < l.length := by omega
    obtain ⟨x, hx⟩ : ∃ x, l[j]? = some x := ⟨_, List.getElem?_eq_getElem hjl⟩
    have hat := any_take (fun x => decide (x = v)) hx
    rw [hn, Bool.false_or] at hat
    (repeat (first | refine gi_seq ?_ | refine gi_skip ?_ | refine gi_block ?_))
    refine gi_drawM [] [(0, .p), (1, .p), (2, .p), (3, .t), (4, .t), (5, .p)] [0, 0, 3, 4, 0, 24] [0, 0, 3, 4, 0, 24] hm rfl (by kernel_rfl) (fun w1 K => ?_)
    (repeat ((refine r_op ?_; refine r_pure hT rfl rfl rfl rfl rfl rfl ?_)))
    refine r_idx (row := x.row) hT rfl rfl rfl rfl rfl rfl rfl rfl rfl rfl rfl rfl (by omega) (by simp [hx]) ?_
    (repeat ((refine r_op ?_; refine r_load hT rfl rfl rfl rfl rfl rfl rfl rfl rfl ?_)))
    refine r_eqT _ rfl rfl rfl rfl rfl rfl rfl rfl rfl y_flat_Vt ?_
    (repeat (refine r_end ?_))
    refine gi_cond rfl (fun c4 => ?_) (fun c4 => ?_)
    · rw [veq_eq x v] at c4
      (repeat (first | refine r_end ?_ | (refine r_op ?_; refine r_pure hT rfl rfl rfl rfl rfl rfl ?_) | refine gi_seq ?_ | refine gi_plain ?_))
      refine gi_retW hT Try.func58 rfl rfl [] rfl rfl rfl rfl ?_
      refine ⟨?_, rfl⟩
      rw [List.any_eq_true.2 ⟨x, List.mem_of_getElem? hx, c4⟩]
    · rw [veq_eq x v] at c4
      (repeat (first | refine r_end ?_ | (refine r_op ?_; refine r_pure hT rfl rfl rfl rfl rfl rfl ?_) | refine gi_plain ?_ | refine gi_skip ?_ | refine gi_inBlock ?_))
      refine next (j + 1) _ _ _ ⟨hjl, by rw [hat]; exact c4⟩ (by omega) ⟨?_, rfl, rfl, trivial⟩ ⟨rfl, trivial⟩ trivial
      show some (I (wr .i64 ((j : Int) + 1))) = _
      rw [wr_i64 (by omega) (by omega)]
      simp
  · rw [List.length_map] at h3
    have hjl : j = l.length := by omega
    subst hjl
    rw [List.take_length] at hn
    (repeat (first | refine r_end ?_ | (refine r_op ?_; refine r_pure hT rfl rfl rfl rfl rfl rfl ?_) | refine gi_seq ?_ | refine gi_plain ?_ | refine gi_exit rfl ?_))
    refine gi_retW hT Try.func58 rfl rfl [] rfl rfl rfl rfl ?_
    exact ⟨by rw [hn], rfl⟩
theorem contains_any (l : List Int) (n : Int) : l.contains n = l.any (fun x => decide (x = n)) := by
  rw [Bool.eq_iff_iff, List.contains_iff_mem, List.any_eq_true]
  exact ⟨fun h => ⟨n, h, decide_eq_true rfl⟩, fun ⟨x, h, e⟩ => by rw [← of_decide_eq_true e]; exact h⟩
/-! ### the reference's Reach: the law -/
def cR (q n : Nd) : Int := if q.v.k = 2 ∨ n.v.k = 1 then 1 else 0
theorem cR_b (q n : Nd) : 0 ≤ cR q n ∧ cR q n ≤ 1 := by unfold cR; split <;> omega
theorem cR_eq {q n : Nd} (hq : q.v.k = 1 ∨ q.v.k = 2) : cR q n = cK q n + cP q := by
  unfold cR cK cP
  rcases hq with h | h
  · rw [if_pos h]
    by_cases h2 : n.v.k = 1
    · rw [if_pos (.inr h2), if_pos ⟨h2, h⟩]; rfl
    · rw [if_neg (fun hh => by rcases hh with hh | hh <;> omega), if_neg (fun hh => h2 hh.1)]; rfl
  · rw [if_pos (.inl h), if_neg (fun hh => by have := hh.2; omega), if_neg (show ¬ q.v.k = 1 by omega)]; rfl
structure PInv (t : List Nd) (w : List Int) (ms : List Vt) (i : Nat) (o : List Int) : Prop where
  lo : o.length = t.length
  rng : ∀ (k : Nat) x, i ≤ k → o[k]? = some x → -1 ≤ x ∧ x + k ≤ t.length
  at_ : ∀ k n x, i ≤ k → t[k]? = some n → o[k]? = some x → Val t w ms o k n x
theorem PInv.zero (t : List Nd) (w : List Int) (ms : List Vt) : PInv t w ms t.length (List.replicate t.length 0) where
  lo := by simp
  rng := fun k x hk hx => by have := (List.getElem?_eq_some_iff.1 hx).1; rw [List.length_replicate] at this; omega
  at_ := fun k n x hk hn _ => by have := (List.getElem?_eq_some_iff.1 hn).1; omega
theorem PInv.rch {t : List Nd} {w : List Int} {ms : List Vt} {o : List Int} (h : PInv t w ms 0 o) : Rch t w ms o :=
  ⟨h.lo, fun k x => h.rng k x (Nat.zero_le _), fun k n x => h.at_ k n x (Nat.zero_le _)⟩
/-- The nearest of the kids between i and k. -/
structure EInv (t : List Nd) (o : List Int) (i k : Nat) (n : Nd) (e : Int) : Prop where
  lo : -1 ≤ e
  le : ∀ k' m y, i < k' → k' < k → t[k']? = some m → m.p = i → o[k']? = some y → 0 ≤ y → 0 ≤ e ∧ e ≤ y + cR n m
  or : 0 ≤ e → ∃ k' m y, i < k' ∧ k' < k ∧ t[k']? = some m ∧ m.p = i ∧ o[k']? = some y ∧ 0 ≤ y ∧ e = y + cR n m
section
variable {t : List Nd} {w : List Int} {ms : List Vt} {i k : Nat} {o : List Int} {n m : Nd} {e y : Int}
theorem EInv.zero : EInv t o i (i + 1) n (-1) := ⟨by omega, fun k' _ _ h1 h2 => by omega, fun h => by omega⟩
theorem EInv.skip (h : EInv t o i k n e) (hm : t[k]? = some m) (hy : o[k]? = some y) (hs : m.p ≠ i ∨ y < 0) : EInv t o i (k + 1) n e := by
  refine ⟨h.lo, fun k' m' y' q1 q2 q3 q4 q5 q6 => ?_, fun h0 => ?_⟩
  · rcases Nat.lt_succ_iff_lt_or_eq.1 q2 with q2 | rfl
    · exact h.le k' m' y' q1 q2 q3 q4 q5 q6
    · rw [hm] at q3; cases q3
      rw [hy] at q5; cases q5
      rcases hs with hs | hs
      · exact absurd q4 hs
      · omega
  · obtain ⟨k', m', y', q1, q2, q⟩ := h.or h0
    exact ⟨k', m', y', q1, by omega, q⟩
theorem EInv.add (h : EInv t o i k n e) (hik : i < k) (hm : t[k]? = some m) (hy : o[k]? = some y) (hp : m.p = i) (hy0 : 0 ≤ y) : EInv t o i (k + 1) n (if e < 0 ∨ y + cR n m < e then y + cR n m else e) := by
  have hc := cR_b n m
  refine ⟨by have := h.lo; split <;> omega, fun k' m' y' q1 q2 q3 q4 q5 q6 => ?_, fun h0 => ?_⟩
  · rcases Nat.lt_succ_iff_lt_or_eq.1 q2 with q2 | rfl
    · have := h.le k' m' y' q1 q2 q3 q4 q5 q6
      split <;> omega
    · rw [hm] at q3; cases q3
      rw [hy] at q5; cases q5
      split <;> omega
  · by_cases hh : e < 0 ∨ y + cR n m < e
    · rw [if_pos hh]
      exact ⟨k, m, y, hik, by omega, hm, hp, hy, hy0, rfl⟩
    · rw [if_neg hh] at h0 ⊢
      obtain ⟨k', m', y', q1, q2, q⟩ := h.or h0
      exact ⟨k', m', y', q1, by omega, q⟩
def valP (w : List Int) (ms : List Vt) (n : Nd) (e : Int) : Int := if isW w n = true then 0 else if isMb ms n = true then 1 else e
theorem PInv.step (h : PInv t w ms (i + 1) o) (hn : t[i]? = some n) (hk : n.v.k = 1 ∨ n.v.k = 2) (he : EInv t o i t.length n e) : PInv t w ms i (o.set i (valP w ms n e)) := by
  have hl := (List.getElem?_eq_some_iff.1 hn).1
  have hlo : i < o.length := by rw [h.lo]; exact hl
  have hb : -1 ≤ valP w ms n e ∧ valP w ms n e + i ≤ t.length := by
    unfold valP
    split
    · omega
    split
    · omega
    · by_cases h0 : 0 ≤ e
      · obtain ⟨k', m', y', q1, q2, q3, q4, q5, q6, rfl⟩ := he.or h0
        have := (h.rng k' y' (by omega) q5).2
        have := cR_b n m'
        omega
      · have := he.lo; omega
  refine ⟨by rw [List.length_set]; exact h.lo, fun k x hk hx => ?_, fun k m x hk' hm hx => ?_⟩
  · rcases getS hlo hx with ⟨rfl, rfl⟩ | ⟨hne, hx⟩
    · exact hb
    · exact h.rng k x (by omega) hx
  · rcases getS hlo hx with ⟨rfl, rfl⟩ | ⟨hne, hx⟩
    · rw [hn] at hm; cases hm
      refine ⟨fun h1 => by unfold valP; rw [if_pos h1], fun h1 h2 => by unfold valP; rw [if_neg (by rw [h1]; decide), if_pos h2], fun h1 h2 k' m' y' q1 q3 q4 q5 q6 => ?_, fun h1 h2 h0 => ?_⟩
      · have hv : valP w ms n e = e := by unfold valP; rw [if_neg (by rw [h1]; decide), if_neg (by rw [h2]; decide)]
        rw [List.getElem?_set_ne (by omega)] at q5
        rw [hv, ← cR_eq hk]
        exact he.le k' m' y' q1 (List.getElem?_eq_some_iff.1 q3).1 q3 q4 q5 q6
      · have hv : valP w ms n e = e := by unfold valP; rw [if_neg (by rw [h1]; decide), if_neg (by rw [h2]; decide)]
        rw [hv] at h0 ⊢
        obtain ⟨k', m', y', q1, q2, q3, q4, q5, q6, q7⟩ := he.or h0
        exact ⟨k', m', y', q1, q3, q4, by rw [List.getElem?_set_ne (by omega)]; exact q5, q6, by rw [q7, cR_eq hk]⟩
    · exact (h.at_ k m x (by omega) hm hx).keep (fun j hj => List.getElem?_set_ne (by omega))
end
/-- There is but one answer. -/
theorem Rch.uniq {t : List Nd} {w : List Int} {ms : List Vt} {a b : List Int} (ha : Rch t w ms a) (hb : Rch t w ms b) : a = b := by
  have key : ∀ (j k : Nat) (x y : Int), t.length - k ≤ j → a[k]? = some x → b[k]? = some y → x = y := by
    intro j
    induction j with
    | zero => intro k x y hj hx; have := (List.getElem?_eq_some_iff.1 hx).1; have := ha.lo; omega
    | succ j ih =>
      intro k x y hj hx hy
      have hl := (List.getElem?_eq_some_iff.1 hx).1
      rw [ha.lo] at hl
      obtain ⟨n, hn⟩ : ∃ n, t[k]? = some n := ⟨_, List.getElem?_eq_getElem hl⟩
      have va := ha.at_ k n x hn hx
      have vb := hb.at_ k n y hn hy
      cases hw : isW w n with
      | true => rw [va.wi hw, vb.wi hw]
      | false =>
        cases hm : isMb ms n with
        | true => rw [va.me hw hm, vb.me hw hm]
        | false =>
          have rx := ha.rng k x hx
          have ry := hb.rng k y hy
          have e1 : 0 ≤ x → 0 ≤ y ∧ y ≤ x := fun h0 => by
            obtain ⟨k', m, x', hk, hm', hp, hx', hx1, rfl⟩ := va.or hw hm h0
            obtain ⟨y', hy'⟩ : ∃ y', b[k']? = some y' := ⟨_, List.getElem?_eq_getElem (by rw [hb.lo]; exact (List.getElem?_eq_some_iff.1 hm').1)⟩
            have := ih k' x' y' (by omega) hx' hy'
            subst this
            exact vb.le hw hm k' m x' hk hm' hp hy' hx1
          have e2 : 0 ≤ y → 0 ≤ x ∧ x ≤ y := fun h0 => by
            obtain ⟨k', m, y', hk, hm', hp, hy', hy1, rfl⟩ := vb.or hw hm h0
            obtain ⟨x', hx'⟩ : ∃ x', a[k']? = some x' := ⟨_, List.getElem?_eq_getElem (by rw [ha.lo]; exact (List.getElem?_eq_some_iff.1 hm').1)⟩
            have := ih k' x' y' (by omega) hx' hy'
            subst this
            exact va.le hw hm k' m x' hk hm' hp hx' hy1
          omega
  refine List.ext_getElem? (fun k => ?_)
  by_cases h : k < t.length
  · obtain ⟨x, hx⟩ : ∃ x, a[k]? = some x := ⟨_, List.getElem?_eq_getElem (by rw [ha.lo]; exact h)⟩
    obtain ⟨y, hy⟩ : ∃ y, b[k]? = some y := ⟨_, List.getElem?_eq_getElem (by rw [hb.lo]; exact h)⟩
    rw [hx, hy, key t.length k x y (by omega) hx hy]
  · rw [List.getElem?_eq_none (by rw [ha.lo]; omega), List.getElem?_eq_none (by rw [hb.lo]; omega)]
end Go.Proofs.Ytmocggibcniggaa.Kt
