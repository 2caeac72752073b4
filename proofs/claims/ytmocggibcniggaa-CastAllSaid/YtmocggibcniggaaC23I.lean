/- Part of the proofs of this seat's statements: what the functions compute. No condition. -/
import Derived.Test.YtmocggibcniggaaC23G
set_option linter.unusedSimpArgs false
set_option linter.unusedVariables false
namespace Go.Proofs.Ytmocggibcniggaa.Kt
open Go Kw Go.Proofs
set_option maxHeartbeats 4000000
set_option maxRecDepth 100000
/-! ### routers that want all groups: the law -/
section
variable {t : List Nd} {W : List Int} {ms : List Vt} {a b c : List Int}
theorem wild_k {n : Nd} (h : n.v.k ≠ 1) : isW W n = false := by unfold isW; rw [decide_eq_false h]; rfl
/-- Who does not want all is at one at the least. -/
theorem Rch.one' (h : Rch t W ms a) : ∀ (j k : Nat) (n : Nd) (x : Int), t.length - k ≤ j → t[k]? = some n → a[k]? = some x → isW W n = false → 0 ≤ x → 1 ≤ x
  | 0, k, n, x, hj, hn, _, _, _ => by have := (List.getElem?_eq_some_iff.1 hn).1; omega
  | j + 1, k, n, x, hj, hn, hx, hw, h0 => by
    have hv := h.at_ k n x hn hx
    cases hm : isMb ms n with
    | true => rw [hv.me hw hm]; omega
    | false =>
      obtain ⟨k', m, y, hk, hm', _, hy, hy0, rfl⟩ := hv.or hw hm h0
      have h1 := cK_b n m
      have h2 := cP_b n
      by_cases hk1 : n.v.k = 1
      · by_cases hm1 : m.v.k = 1
        · have : cK n m = 1 := if_pos ⟨hm1, hk1⟩
          omega
        · have := Rch.one' h j k' m y (by omega) hm' hy (wild_k hm1) hy0
          omega
      · have : cP n = 1 := if_neg hk1
        omega
theorem Rch.more (ha : Rch t [] ms a) (hb : Rch t W ms b) : ∀ (j k : Nat) (n : Nd) (x y : Int), t.length - k ≤ j → t[k]? = some n → a[k]? = some x → b[k]? = some y → 0 ≤ x → 0 ≤ y ∧ y ≤ x
  | 0, k, n, x, y, hj, hn, _, _, _ => by have := (List.getElem?_eq_some_iff.1 hn).1; omega
  | j + 1, k, n, x, y, hj, hn, hx, hy, h0 => by
    have va := ha.at_ k n x hn hx
    have vb := hb.at_ k n y hn hy
    cases hw : isW W n with
    | true => rw [vb.wi hw]; omega
    | false =>
      cases hm : isMb ms n with
      | true => rw [vb.me hw hm, va.me (isW_nil n) hm]; omega
      | false =>
        obtain ⟨k', m, x', hk, hm', hp, hx', hx0, rfl⟩ := va.or (isW_nil n) hm h0
        obtain ⟨y', hy'⟩ : ∃ y', b[k']? = some y' := ⟨_, List.getElem?_eq_getElem (by rw [hb.lo]; exact (List.getElem?_eq_some_iff.1 hm').1)⟩
        obtain ⟨q1, q2⟩ := Rch.more ha hb j k' m x' y' (by omega) hm' hx' hy' hx0
        have := vb.le hw hm k' m y' hk hm' hp hy' q1
        omega
theorem Rch.mem (hc : Rch t W [] c) (hb : Rch t W ms b) : ∀ (j k : Nat) (n : Nd) (x y : Int), t.length - k ≤ j → t[k]? = some n → c[k]? = some x → b[k]? = some y → 0 ≤ x → 0 ≤ y ∧ y ≤ x
  | 0, k, n, x, y, hj, hn, _, _, _ => by have := (List.getElem?_eq_some_iff.1 hn).1; omega
  | j + 1, k, n, x, y, hj, hn, hx, hy, h0 => by
    have vc := hc.at_ k n x hn hx
    have vb := hb.at_ k n y hn hy
    cases hw : isW W n with
    | true => rw [vb.wi hw]; omega
    | false =>
      have h1 := hc.one' t.length k n x (by omega) hn hx hw h0
      cases hm : isMb ms n with
      | true => rw [vb.me hw hm]; omega
      | false =>
        obtain ⟨k', m, x', hk, hm', hp, hx', hx0, rfl⟩ := vc.or hw rfl h0
        obtain ⟨y', hy'⟩ : ∃ y', b[k']? = some y' := ⟨_, List.getElem?_eq_getElem (by rw [hb.lo]; exact (List.getElem?_eq_some_iff.1 hm').1)⟩
        obtain ⟨q1, q2⟩ := Rch.mem hc hb j k' m x' y' (by omega) hm' hx' hy' hx0
        have := vb.le hw hm k' m y' hk hm' hp hy' q1
        omega
theorem Rch.same (ha : Rch t [] ms a) (hb : Rch t W ms b) (hc : Rch t W [] c) : ∀ (j k : Nat) (n : Nd) (x y z : Int), t.length - k ≤ j → t[k]? = some n → a[k]? = some x → b[k]? = some y → c[k]? = some z → x < 0 → y = z
  | 0, k, n, x, y, z, hj, hn, _, _, _, _ => by have := (List.getElem?_eq_some_iff.1 hn).1; omega
  | j + 1, k, n, x, y, z, hj, hn, hx, hy, hz, h0 => by
    have va := ha.at_ k n x hn hx
    have vb := hb.at_ k n y hn hy
    have vc := hc.at_ k n z hn hz
    cases hw : isW W n with
    | true => rw [vb.wi hw, vc.wi hw]
    | false =>
      cases hm : isMb ms n with
      | true => have := va.me (isW_nil n) hm; omega
      | false =>
        have kid : ∀ (k' : Nat) (m : Nd) (y' z' : Int), k < k' → t[k']? = some m → m.p = k → b[k']? = some y' → c[k']? = some z' → y' = z' := fun k' m y' z' hk hm' hp hy' hz' => by
          obtain ⟨x', hx'⟩ : ∃ x', a[k']? = some x' := ⟨_, List.getElem?_eq_getElem (by rw [ha.lo]; exact (List.getElem?_eq_some_iff.1 hm').1)⟩
          refine Rch.same ha hb hc j k' m x' y' z' (by omega) hm' hx' hy' hz' ?_
          refine Int.not_le.1 (fun h => ?_)
          have := (va.le (isW_nil n) hm k' m x' hk hm' hp hx' h).1
          omega
        have ry := hb.rng k y hy
        have rz := hc.rng k z hz
        have e1 : 0 ≤ y → 0 ≤ z ∧ z ≤ y := fun hy0 => by
          obtain ⟨k', m, y', hk, hm', hp, hy', hy1, rfl⟩ := vb.or hw hm hy0
          obtain ⟨z', hz'⟩ : ∃ z', c[k']? = some z' := ⟨_, List.getElem?_eq_getElem (by rw [hc.lo]; exact (List.getElem?_eq_some_iff.1 hm').1)⟩
          have := kid k' m y' z' hk hm' hp hy' hz'
          subst this
          exact vc.le hw rfl k' m y' hk hm' hp hz' hy1
        have e2 : 0 ≤ z → 0 ≤ y ∧ y ≤ z := fun hz0 => by
          obtain ⟨k', m, z', hk, hm', hp, hz', hz1, rfl⟩ := vc.or hw rfl hz0
          obtain ⟨y', hy'⟩ : ∃ y', b[k']? = some y' := ⟨_, List.getElem?_eq_getElem (by rw [hb.lo]; exact (List.getElem?_eq_some_iff.1 hm').1)⟩
          have := kid k' m y' z' hk hm' hp hy' hz'
          subst this
          exact vb.le hw hm k' m y' hk hm' hp hy' hz1
        omega
theorem Rch.none (hc : Rch t [] [] c) : ∀ (j k : Nat) (x : Int), t.length - k ≤ j → c[k]? = some x → x = -1
  | 0, k, x, hj, hx => by have := (List.getElem?_eq_some_iff.1 hx).1; have := hc.lo; omega
  | j + 1, k, x, hj, hx => by
    have hl := (List.getElem?_eq_some_iff.1 hx).1
    rw [hc.lo] at hl
    obtain ⟨n, hn⟩ : ∃ n, t[k]? = some n := ⟨_, List.getElem?_eq_getElem hl⟩
    have hr := hc.rng k x hx
    have : ¬ 0 ≤ x := fun h0 => by
      obtain ⟨k', m, y', hk, hm', hp, hy', hy1, _⟩ := (hc.at_ k n x hn hx).or (isW_nil n) rfl h0
      have := Rch.none hc j k' y' (by omega) hy'
      omega
    omega
theorem Rch.nones (hc : Rch t [] [] c) : c = List.replicate t.length (-1) := by
  refine List.eq_replicate_iff.2 ⟨hc.lo, fun x hx => ?_⟩
  obtain ⟨k, hk⟩ := List.mem_iff_getElem?.1 hx
  exact hc.none t.length k x (by omega) hk
end
/-! ### one of Graph's routers wants all -/
def Ls.wild (x : Ls) : Ls := { x with fl := 8 }
theorem wl_mem {l : List Ls} {w : Nat} {v : Vt} {x : Ls} (hv : v ∈ (mapL l).vs) (hk : v = ⟨1, w⟩) (hf : findL l v = some x) (hx : x.fl = 8) : (w : Int) ∈ (mapL l).wl := by
  show _ ∈ (vertsL l).flatMap (wlF l)
  refine List.mem_flatMap.2 ⟨v, hv, ?_⟩
  subst hk
  have h1 : wlF l ⟨1, w⟩ = wl1 l ⟨1, w⟩ := by
    unfold wlF
    have : eqB (1 : Int) 2 = false := by kernel_rfl
    simp only [this]
  rw [h1]
  unfold wl1
  rw [hf]
  show _ ∈ (match notB (eqB (Go.bits .and .i64 x.fl 8) 0) with | true => _ | false => _)
  rw [hx]
  have : notB (eqB (Go.bits .and .i64 8 8) 0) = true := by kernel_rfl
  rw [this]
  exact List.mem_singleton.2 rfl
end Go.Proofs.Ytmocggibcniggaa.Kt
