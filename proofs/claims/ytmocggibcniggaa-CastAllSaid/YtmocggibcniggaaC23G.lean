/- Part of the proofs of this seat's statements: what the functions compute. No condition. -/
import Derived.Test.YtmocggibcniggaaC23F
import Derived.Test.YtmocggibcniggaaC18Bz
set_option linter.unusedSimpArgs false
set_option linter.unusedVariables false
namespace Go.Proofs.Ytmocggibcniggaa.Kt
open Go Kw Go.Proofs
attribute [local irreducible] Kw.GI Kw.GR Kw.FnR Kw.FnX
set_option maxHeartbeats 16000000
set_option maxRecDepth 100000
/-! ### nobody wants all groups on Graph's maps -/
theorem wl_nil {l : List Ls} (h : ∀ x ∈ l, x.fl = 0) : (mapL l).wl = [] := by
  show (vertsL l).flatMap (wlF l) = []
  rw [List.flatMap_eq_nil_iff]
  intro v _
  have h0 : ((findL l v).getD zLs).fl = 0 := by
    cases hf : findL l v with
    | none => rfl
    | some x => exact h x (find_mem hf)
  have h1 : wl1 l v = [] := by
    unfold wl1
    rw [h0]
    have : notB (eqB (Go.bits .and .i64 0 8) 0) = false := by kernel_rfl
    rw [this]
  unfold wlF
  split
  · rfl
  · exact h1
theorem GrOk.fl {n : Int} {l : List Ls} (h : GrOk n l) : ∀ x ∈ l, x.fl = 0 := by
  obtain ⟨k, gs, ns, h1, rfl, h2, h3, h4⟩ := h.ex
  intro x hx
  rcases List.mem_append.1 hx with hx | hx
  · obtain ⟨j, hj⟩ := List.mem_iff_getElem?.1 hx
    rw [(h2.el j x hj).1]
  · rw [(h3 x hx).1]
/-! ### laws of what Reach answers -/
theorem isW_nil (n : Nd) : isW [] n = false := by unfold isW; rw [List.any_nil, Bool.and_false]
/-- Who is not one, and is some nets away, is at one at the least. -/
theorem Rch.one {t : List Nd} {ms : List Vt} {o : List Int} (h : Rch t [] ms o) : ∀ (j k : Nat) (n : Nd) (x : Int), t.length - k ≤ j → t[k]? = some n → o[k]? = some x → 0 ≤ x → 1 ≤ x
  | 0, k, n, x, hj, hn, _, _ => by have := (List.getElem?_eq_some_iff.1 hn).1; omega
  | j + 1, k, n, x, hj, hn, hx, h0 => by
    have hv := h.at_ k n x hn hx
    cases hm : isMb ms n with
    | true => rw [hv.me (isW_nil n) hm]; omega
    | false =>
      obtain ⟨k', m, y, hk, hm', _, hy, hy0, rfl⟩ := hv.or (isW_nil n) hm h0
      have := Rch.one h j k' m y (by omega) hm' hy hy0
      have := cK_b n m
      have := cP_b n
      omega
/-- The statement's step. -/
def stS (n m : Nd) : Int := if n.v.k = 1 ∧ m.v.k = 2 then 0 else 1
theorem stS_eq {n m : Nd} (h : m.v.k = 1 ∨ m.v.k = 2) : cK n m + cP n = stS n m := by
  unfold cK cP stS
  by_cases h1 : n.v.k = 1
  · rcases h with h | h
    · rw [if_pos ⟨h, h1⟩, if_pos h1, if_neg (fun hh => by have := hh.2; omega)]; rfl
    · rw [if_neg (fun hh => by have := hh.1; omega), if_pos h1, if_pos ⟨h1, h⟩]; rfl
  · rw [if_neg (fun hh => h1 hh.2), if_neg h1, if_neg (fun hh => h1 hh.1)]; rfl
theorem stS_b (n m : Nd) : 0 ≤ stS n m ∧ stS n m ≤ 1 := by unfold stS; split <;> omega
theorem Rch.kid {t : List Nd} {ms : List Vt} {o : List Int} (h : Rch t [] ms o) {i k : Nat} {n m : Nd} {x y : Int} (hn : t[i]? = some n) (hx : o[i]? = some x) (hik : i < k) (hm : t[k]? = some m) (hp : m.p = i) (hy : o[k]? = some y) (hk : m.v.k = 1 ∨ m.v.k = 2) (hy0 : 0 ≤ y) : 0 ≤ x ∧ x ≤ y + stS n m := by
  have hv := h.at_ i n x hn hx
  have h1 := h.one t.length k m y (by omega) hm hy hy0
  have hs := stS_b n m
  cases hmm : isMb ms n with
  | true => rw [hv.me (isW_nil n) hmm]; omega
  | false =>
    have := hv.le (isW_nil n) hmm k m y hik hm hp hy hy0
    rw [stS_eq hk] at this
    exact this
end Go.Proofs.Ytmocggibcniggaa.Kt
