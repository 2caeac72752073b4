/- Part of the proofs of this seat's statements: what the functions compute. No condition. -/
import Derived.Test.YtmocggibcniggaaC23B
set_option linter.unusedSimpArgs false
set_option linter.unusedVariables false
namespace Go.Proofs.Ytmocggibcniggaa.Kt
open Go Kw Go.Proofs
set_option maxHeartbeats 4000000
set_option maxRecDepth 100000
/-! ### how far each Node is from a member: the law -/
def isW (w : List Int) (n : Nd) : Bool := decide (n.v.k = 1) && w.any (fun x => decide (x = n.v.i))
def isMb (ms : List Vt) (n : Nd) : Bool := ms.any (fun x => decide (x = n.v))
def cK (q n : Nd) : Int := if n.v.k = 1 ∧ q.v.k = 1 then 1 else 0
def cP (q : Nd) : Int := if q.v.k = 1 then 0 else 1
theorem cK_b (q n : Nd) : 0 ≤ cK q n ∧ cK q n ≤ 1 := by unfold cK; split <;> omega
theorem cP_b (q : Nd) : 0 ≤ cP q ∧ cP q ≤ 1 := by unfold cP; split <;> omega
theorem cKP_b (q n : Nd) : cK q n + cP q ≤ 1 := by
  unfold cK cP
  by_cases h : q.v.k = 1
  · rw [if_pos h]; split <;> omega
  · rw [if_neg h, if_neg (fun h' => h h'.2)]; omega
structure Val (t : List Nd) (w : List Int) (ms : List Vt) (o : List Int) (i : Nat) (n : Nd) (x : Int) : Prop where
  wi : isW w n = true → x = 0
  me : isW w n = false → isMb ms n = true → x = 1
  le : isW w n = false → isMb ms n = false → ∀ k m y, i < k → t[k]? = some m → m.p = i → o[k]? = some y → 0 ≤ y → 0 ≤ x ∧ x ≤ y + (cK n m + cP n)
  or : isW w n = false → isMb ms n = false → 0 ≤ x → ∃ k m y, i < k ∧ t[k]? = some m ∧ m.p = i ∧ o[k]? = some y ∧ 0 ≤ y ∧ x = y + (cK n m + cP n)
structure RInv (t : List Nd) (w : List Int) (ms : List Vt) (i : Nat) (o d : List Int) : Prop where
  lo : o.length = t.length
  ld : d.length = t.length
  rng : ∀ (k : Nat) x, i ≤ k → o[k]? = some x → -1 ≤ x ∧ x + k ≤ t.length
  at_ : ∀ k n x, i ≤ k → t[k]? = some n → o[k]? = some x → Val t w ms o k n x
  dlo : ∀ p x, p < i → d[p]? = some x → -1 ≤ x
  dle : ∀ (p : Nat) np x k m y, p < i → t[p]? = some np → d[p]? = some x → i ≤ k → t[k]? = some m → m.p = p → o[k]? = some y → 0 ≤ y → 0 ≤ x ∧ x ≤ y + cK np m
  dor : ∀ (p : Nat) np x, p < i → t[p]? = some np → d[p]? = some x → 0 ≤ x → ∃ k m y, i ≤ k ∧ t[k]? = some m ∧ m.p = p ∧ o[k]? = some y ∧ 0 ≤ y ∧ x = y + cK np m
theorem RInv.zero (t : List Nd) (w : List Int) (ms : List Vt) : RInv t w ms t.length (List.replicate t.length 0) (List.replicate t.length (-1)) where
  lo := by simp
  ld := by simp
  rng := fun k x hk hx => by have := (List.getElem?_eq_some_iff.1 hx).1; rw [List.length_replicate] at this; omega
  at_ := fun k n x hk hn _ => by have := (List.getElem?_eq_some_iff.1 hn).1; omega
  dlo := fun p x hp hx => by
    have := List.mem_of_getElem? hx
    rw [List.mem_replicate] at this
    omega
  dle := fun p np x k m y hp _ _ hk hm => by have := (List.getElem?_eq_some_iff.1 hm).1; omega
  dor := fun p np x hp _ hx h0 => by
    have := List.mem_of_getElem? hx
    rw [List.mem_replicate] at this
    omega
/-- What a Node's distance is, of what its kids told. -/
def valR (w : List Int) (ms : List Vt) (n : Nd) (e : Int) : Int := if isW w n = true then 0 else if isMb ms n = true then 1 else if n.v.k ≠ 1 ∧ 0 ≤ e then e + 1 else e
theorem getS {l : List Int} {i k : Nat} {v x : Int} (hi : i < l.length) (h : (l.set i v)[k]? = some x) : (k = i ∧ x = v) ∨ (k ≠ i ∧ l[k]? = some x) := by
  by_cases e : k = i
  · subst e
    rw [List.getElem?_set_self hi] at h
    exact .inl ⟨rfl, (Option.some.inj h).symm⟩
  · rw [List.getElem?_set_ne (fun h => e h.symm)] at h
    exact .inr ⟨e, h⟩
section
variable {t : List Nd} {w : List Int} {ms : List Vt} {i : Nat} {o d : List Int} {n : Nd} {e : Int}
theorem RInv.eup (h : RInv t w ms (i + 1) o d) (hn : t[i]? = some n) (he : d[i]? = some e) : -1 ≤ e ∧ e + cP n + i ≤ t.length := by
  have h1 := h.dlo i e (by omega) he
  have hl := (List.getElem?_eq_some_iff.1 hn).1
  refine ⟨h1, ?_⟩
  have hb := cP_b n
  by_cases h0 : 0 ≤ e
  · obtain ⟨k, m, y, hk, hm, hp, hy, hy0, rfl⟩ := h.dor i n e (by omega) hn he h0
    have h2 := (h.rng k y hk hy).2
    have := cKP_b n m
    omega
  · omega
theorem RInv.vb (h : RInv t w ms (i + 1) o d) (hn : t[i]? = some n) (he : d[i]? = some e) : -1 ≤ valR w ms n e ∧ valR w ms n e + i ≤ t.length := by
  obtain ⟨h1, h2⟩ := h.eup hn he
  have hl := (List.getElem?_eq_some_iff.1 hn).1
  have hb := cP_b n
  unfold valR
  split
  · omega
  split
  · omega
  split
  · rename_i h3
    have : cP n = 1 := if_neg h3.1
    omega
  · omega
theorem RInv.val (h : RInv t w ms (i + 1) o d) (hn : t[i]? = some n) (he : d[i]? = some e) : Val t w ms (o.set i (valR w ms n e)) i n (valR w ms n e) := by
  have hl := (List.getElem?_eq_some_iff.1 hn).1
  have hlo : i < o.length := by rw [h.lo]; exact hl
  have hd := h.dlo i e (by omega) he
  have key : isW w n = false → isMb ms n = false → valR w ms n e = if 0 ≤ e then e + cP n else e := fun h1 h2 => by
    unfold valR
    rw [if_neg (by rw [h1]; decide), if_neg (by rw [h2]; decide)]
    unfold cP
    by_cases hk : n.v.k = 1
    · rw [if_neg (fun hh => hh.1 hk), if_pos hk]; split <;> omega
    · rw [if_neg hk]
      by_cases h0 : 0 ≤ e
      · rw [if_pos ⟨hk, h0⟩, if_pos h0]
      · rw [if_neg (fun hh => h0 hh.2), if_neg h0]
  refine ⟨fun h1 => by unfold valR; rw [if_pos h1], fun h1 h2 => by unfold valR; rw [if_neg (by rw [h1]; decide), if_pos h2], fun h1 h2 k m y hk hm hp hy hy0 => ?_, fun h1 h2 hx => ?_⟩
  · rcases getS hlo hy with ⟨hk', _⟩ | ⟨_, hy⟩
    · omega
    obtain ⟨q1, q2⟩ := h.dle i n e k m y (by omega) hn he (by omega) hm hp hy hy0
    rw [key h1 h2, if_pos q1]
    have := cP_b n
    omega
  · rw [key h1 h2] at hx ⊢
    by_cases h0 : 0 ≤ e
    · obtain ⟨k, m, y, hk, hm, hp, hy, hy0, rfl⟩ := h.dor i n e (by omega) hn he h0
      refine ⟨k, m, y, by omega, hm, hp, by rw [List.getElem?_set_ne (by omega)]; exact hy, hy0, ?_⟩
      rw [if_pos h0]; omega
    · rw [if_neg h0] at hx; omega
theorem Val.keep {o' : List Int} {k : Nat} {x : Int} (hv : Val t w ms o k n x) (h : ∀ j, k < j → o'[j]? = o[j]?) : Val t w ms o' k n x :=
  ⟨hv.wi, hv.me, fun h1 h2 j m y hj hm hp hy hy0 => hv.le h1 h2 j m y hj hm hp (by rw [← h j hj]; exact hy) hy0, fun h1 h2 h0 => by
    obtain ⟨j, m, y, hj, hm, hp, hy, q⟩ := hv.or h1 h2 h0
    exact ⟨j, m, y, hj, hm, hp, by rw [h j hj]; exact hy, q⟩⟩
/-- A Node whose parent hears nothing. -/
theorem RInv.skip (h : RInv t w ms (i + 1) o d) (hn : t[i]? = some n) (he : d[i]? = some e) (hs : n.p < 0 ∨ i ≤ n.p ∨ valR w ms n e < 0) : RInv t w ms i (o.set i (valR w ms n e)) d := by
  have hl := (List.getElem?_eq_some_iff.1 hn).1
  have hlo : i < o.length := by rw [h.lo]; exact hl
  have hv := h.val hn he
  have hb := h.vb hn he
  refine ⟨by rw [List.length_set]; exact h.lo, h.ld, fun k x hk hx => ?_, fun k m x hk hm hx => ?_, fun p x hp => h.dlo p x (by omega), fun p np x k m y hp hnp hx hk hm hmp hy hy0 => ?_, fun p np x hp hnp hx h0 => ?_⟩
  · rcases getS hlo hx with ⟨rfl, rfl⟩ | ⟨hne, hx⟩
    · exact hb
    · exact h.rng k x (by omega) hx
  · rcases getS hlo hx with ⟨rfl, rfl⟩ | ⟨hne, hx⟩
    · rw [hn] at hm; cases hm; exact hv
    · exact (h.at_ k m x (by omega) hm hx).keep (fun j hj => List.getElem?_set_ne (by omega))
  · rcases getS hlo hy with ⟨rfl, rfl⟩ | ⟨hne, hy⟩
    · rw [hn] at hm; cases hm; omega
    · exact h.dle p np x k m y (by omega) hnp hx (by omega) hm hmp hy hy0
  · obtain ⟨k, m, y, hk, hm, hmp, hy, q⟩ := h.dor p np x (by omega) hnp hx h0
    exact ⟨k, m, y, by omega, hm, hmp, by rw [List.getElem?_set_ne (by omega)]; exact hy, q⟩
theorem nearI_le {a b : Int} (hb : 0 ≤ b) (ha : -1 ≤ a) : 0 ≤ nearI a b ∧ nearI a b ≤ b ∧ (0 ≤ a → nearI a b ≤ a) ∧ (nearI a b = b ∨ (0 ≤ a ∧ nearI a b = a)) := by
  unfold nearI
  split
  · omega
  · split
    · omega
    · split <;> omega
/-- A Node that tells its parent. -/
theorem RInv.tell (h : RInv t w ms (i + 1) o d) (hn : t[i]? = some n) (he : d[i]? = some e) {p : Nat} {q : Nd} {f : Int} (hp : n.p = p) (hpi : p < i) (hq : t[p]? = some q) (hf : d[p]? = some f) (h0 : 0 ≤ valR w ms n e) : RInv t w ms i (o.set i (valR w ms n e)) (d.set p (nearI f (valR w ms n e + cK q n))) := by
  have hl := (List.getElem?_eq_some_iff.1 hn).1
  have hlo : i < o.length := by rw [h.lo]; exact hl
  have hld : p < d.length := by rw [h.ld]; omega
  have hv := h.val hn he
  have hb := h.vb hn he
  have hc := cK_b q n
  have hf1 := h.dlo p f (by omega) hf
  obtain ⟨n1, n2, n3, n4⟩ := nearI_le (a := f) (b := valR w ms n e + cK q n) (by omega) hf1
  refine ⟨by rw [List.length_set]; exact h.lo, by rw [List.length_set]; exact h.ld, fun k x hk hx => ?_, fun k m x hk hm hx => ?_, fun p' x hp' hx => ?_, fun p' np x k m y hp' hnp hx hk hm hmp hy hy0 => ?_, fun p' np x hp' hnp hx hx0 => ?_⟩
  · rcases getS hlo hx with ⟨rfl, rfl⟩ | ⟨hne, hx⟩
    · exact hb
    · exact h.rng k x (by omega) hx
  · rcases getS hlo hx with ⟨rfl, rfl⟩ | ⟨hne, hx⟩
    · rw [hn] at hm; cases hm; exact hv
    · exact (h.at_ k m x (by omega) hm hx).keep (fun j hj => List.getElem?_set_ne (by omega))
  · rcases getS hld hx with ⟨rfl, rfl⟩ | ⟨hne, hx⟩
    · omega
    · exact h.dlo p' x (by omega) hx
  · rcases getS hlo hy with ⟨rfl, rfl⟩ | ⟨hne, hy⟩
    · rw [hn] at hm; cases hm
      have hpp : p' = p := by omega
      subst hpp
      rw [hq] at hnp; cases hnp
      rcases getS hld hx with ⟨_, rfl⟩ | ⟨hne, _⟩
      · exact ⟨n1, n2⟩
      · exact absurd rfl hne
    · rcases getS hld hx with ⟨rfl, rfl⟩ | ⟨hne', hx⟩
      · obtain ⟨q1, q2⟩ := h.dle p' np f k m y (by omega) hnp hf (by omega) hm hmp hy hy0
        have := n3 q1
        omega
      · exact h.dle p' np x k m y (by omega) hnp hx (by omega) hm hmp hy hy0
  · rcases getS hld hx with ⟨rfl, rfl⟩ | ⟨hne', hx⟩
    · rw [hq] at hnp; cases hnp
      rcases n4 with n4 | ⟨f0, n4⟩
      · exact ⟨i, n, valR w ms n e, Nat.le_refl _, hn, hp, List.getElem?_set_self hlo, h0, n4⟩
      · obtain ⟨k, m, y, hk, hm, hmp, hy, hy0, q⟩ := h.dor p' _ f (by omega) hq hf f0
        exact ⟨k, m, y, by omega, hm, hmp, by rw [List.getElem?_set_ne (by omega)]; exact hy, hy0, by rw [n4]; exact q⟩
    · obtain ⟨k, m, y, hk, hm, hmp, hy, q⟩ := h.dor p' np x (by omega) hnp hx hx0
      exact ⟨k, m, y, by omega, hm, hmp, by rw [List.getElem?_set_ne (by omega)]; exact hy, q⟩
end
/-- What Reach answers. -/
structure Rch (t : List Nd) (w : List Int) (ms : List Vt) (o : List Int) : Prop where
  lo : o.length = t.length
  rng : ∀ (k : Nat) x, o[k]? = some x → -1 ≤ x ∧ x + k ≤ t.length
  at_ : ∀ k n x, t[k]? = some n → o[k]? = some x → Val t w ms o k n x
theorem RInv.rch {t : List Nd} {w : List Int} {ms : List Vt} {o d : List Int} (h : RInv t w ms 0 o d) : Rch t w ms o :=
  ⟨h.lo, fun k x => h.rng k x (Nat.zero_le _), fun k n x => h.at_ k n x (Nat.zero_le _)⟩
end Go.Proofs.Ytmocggibcniggaa.Kt
